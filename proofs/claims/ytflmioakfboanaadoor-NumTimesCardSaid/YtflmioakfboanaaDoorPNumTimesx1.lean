-- By a program of this work (wip/tools/myprint.py over the kit's printer), with contracts of its own beside.
import Derived.Test.YtflmioakfboanaaDoorPNumTimesx0
namespace Go.Proofs.YtflmioakfboanaaDoor.PNumTimes
open Go.RowKit Go.Proofs.YtflmioakfboanaaDoorW.PrintWords Go.Proofs.YtflmioakfboanaaDoorW.PrintLast Go.Proofs.YtflmioakfboanaaDoorW.PrintMore
attribute [local go_sem] max2_int min2_int max_two min_two max_three min_three max_four min_four   -- for this text's walks alone
set_option linter.unusedVariables false
set_option linter.unusedSimpArgs false

/-! ### slices_ContainsFunc_uint32_uint32: function 56 -/
theorem any_hit (p : Int → Bool) (l : List Int) (k : Nat) (y : Int) (h : k < l.length) (hy : rd l (k : Int) = y) (hp : p y = true) : decide (0 ≤ (k : Int)) = l.any p := by
  have h1 : l.any p = true := by
    rw [List.any_eq_true]
    refine ⟨y, ?_, hp⟩
    rw [← hy]
    unfold rd
    simp [List.getD_eq_getElem?_getD, List.getElem?_eq_getElem h]
  rw [h1]
  simp
theorem any_miss (p : Int → Bool) (l : List Int) (h : ∀ j, j < l.length → p (rd l (j : Int)) = false) : decide (0 ≤ (-1 : Int)) = l.any p := by
  have h1 : l.any p = false := by
    rw [List.any_eq_false]
    intro x hx
    obtain ⟨j, hj, e⟩ := List.getElem_of_mem hx
    have h2 := h j hj
    unfold rd at h2
    simp [List.getD_eq_getElem?_getD, List.getElem?_eq_getElem hj, e] at h2
    simp [h2]
  rw [h1]
  decide

theorem num_Sound_closure.calls (a0 : Int) (w : World) :
    Calls Tryd.prog 57 #[.int .u32 a0] w fun e w' => e = .returned (.bool (decide (1000000000 ≤ a0))) ∧ w' = w := by
  go_enter Tryd.func57, Tryd.ntmps57
  go_wp2
  go_ret
  exact ⟨rfl, rfl⟩

set_option maxHeartbeats 2000000 in
theorem slices_IndexFunc_sound.calls (A0 : Option Addr) (c0 : Nat) (l0 : List Int) (w : World) (hr0 : Kd.C (Kd.int .u32) w A0 l0.length l0) :
    Calls Tryd.prog 74 #[.slice A0 l0.length c0, .func (.func 57) #[] #[]] w fun e w' => ∃ i : Int, e = .returned (.int .i64 i) ∧ Aside0 (decide (0 ≤ i) = l0.any (fun x => decide ((1000000000 : Int) ≤ x))) ∧ Drawn0 w w' := by
  have HR := Aside0.mk hr0
  have hlen : l0.length ≤ 9223372036854775807 := hr0.2.1
  clear hr0
  go_enter Tryd.func74, Tryd.ntmps74
  go_wp2
  go_loopg [5, 8] l0.length (fun gg _ s8 wr => ∃ kk q : Nat, kk ≤ l0.length ∧ l0.length - kk ≤ gg ∧ s8 = .int .i64 kk ∧ wr = w.drewN q ∧ Aside0 (∀ j, j < kk → decide ((1000000000 : Int) ≤ rd l0 j) = false))
  case atStart => exact ⟨0, 0, Nat.zero_le _, by omega, rfl, rfl, ⟨fun j hj => absurd hj (Nat.not_lt_zero _)⟩⟩
  case round =>
    obtain ⟨kk, q, hkk, hg, rfl, rfl, A⟩ := hrel
    by_cases hlt : kk < l0.length
    · have hltz : (kk : Int) < (l0.length : Int) := by omega
      obtain ⟨ad, rfl, hcell0⟩ := Kd.at_int HR.out (kk : Int) (by omega) hltz
      have hcell : w.cell? (ad.add kk) = some (.int .u32 (rd l0 (kk : Int))) := by simpa using hcell0
      clear hcell0
      generalize hy : rd l0 (kk : Int) = y at hcell
      have B := Aside0.mk hy
      clear hy
      by_cases hq : (1000000000 : Int) ≤ y
      · have hqb : decide ((1000000000 : Int) ≤ y) = true := decide_eq_true hq
        have hqa := Aside0.mk hqb
        clear hq
        go_wp2_with fail
        refine (num_Sound_closure.calls _ _).mono ?_
        rintro e w' ⟨rfl, rfl⟩
        go_wp2
        go_ret
        exact ⟨_, rfl, ⟨any_hit (fun x => decide ((1000000000 : Int) ≤ x)) l0 kk y hlt B.out hqa.out⟩, ⟨_, rfl⟩⟩
      · have hqb : decide ((1000000000 : Int) ≤ y) = false := decide_eq_false hq
        have hqa := Aside0.mk hqb
        clear hq
        go_wp2_with fail
        refine (num_Sound_closure.calls _ _).mono ?_
        rintro e w' ⟨rfl, rfl⟩
        go_wp2
        go_roundg (l0.length - (kk + 1))
        case measure => omega
        case rel =>
          refine ⟨kk + 1, _, by omega, by omega, by go_num, rfl, ⟨fun j hj => ?_⟩⟩
          by_cases e : j = kk
          · subst e
            rw [B.out]; exact hqa.out
          · exact A.out j (by omega)
    · have hltz : ¬ (kk : Int) < (l0.length : Int) := by omega
      go_wp2
      go_ret
      exact ⟨_, rfl, ⟨any_miss (fun x => decide ((1000000000 : Int) ≤ x)) l0 (fun j hj => A.out j (by omega))⟩, ⟨_, rfl⟩⟩

def slices_ContainsFunc_uint32_uint32.f (l0 : List Int) (a1 : Nat) : Option Bool := if a1 = 57 then some (l0.any (fun x => decide ((1000000000 : Int) ≤ x))) else none
theorem slices_ContainsFunc_uint32_uint32.calls (A0 : Option Addr) (c0 : Nat) (l0 : List Int) (a1 : Nat) (r : Bool) (w : World) (hr0 : Kd.C (Kd.int .u32) w A0 l0.length l0) (_hc0 : l0.length ≤ c0) (h : slices_ContainsFunc_uint32_uint32.f l0 a1 = some r) :
    Calls Tryd.prog 56 #[.slice A0 l0.length c0, .func (.func a1) #[] #[]] w fun e w' => e = .returned (.bool r) ∧ Drawn0 w w' := by
  unfold slices_ContainsFunc_uint32_uint32.f at h
  by_cases h1 : a1 = 57
  · subst h1
    rw [if_pos rfl] at h
    obtain rfl := Option.some.inj h
    clear h
    go_enter Tryd.func56, Tryd.ntmps56
    go_wp2_with fail
    refine (slices_IndexFunc_sound.calls _ _ _ _ hr0).mono ?_
    rintro e w' ⟨i, rfl, hi, ⟨q, rfl⟩⟩
    go_wp2
    go_ret
    exact ⟨by rw [← hi.out]; rfl, ⟨q, rfl⟩⟩
  · rw [if_neg h1] at h
    exact absurd h (by simp)

/-! ### num_Sound: function 32 -/
def num_Sound.f (a0_0 : Bool) (l0_1 : List Int) : Option (Bool) := if (l0_1.length : Int) = 0 then (some (!a0_0)) else (if (l0_1.length : Int) ≤ 64 then (if 0 ≤ (wrap64 ((l0_1.length : Int) - 1)) then (if (wrap64 ((l0_1.length : Int) - 1)) < (l0_1.length : Int) then (if (rd l0_1 (wrap64 ((l0_1.length : Int) - 1))) = 0 then (some false) else ((slices_ContainsFunc_uint32_uint32.f l0_1 57).bind fun t103 => (some (!t103)))) else (none)) else (none)) else (some false))
set_option maxHeartbeats 8000000 in
set_option maxRecDepth 100000 in
theorem num_Sound.calls (a0_0 : Bool) (A0_1 : Option Addr) (c0_1 : Nat) (l0_1 : List Int) (r : Bool) (w : World) (hr0_1 : Kd.C (Kd.int .u32) w A0_1 l0_1.length l0_1) (hc0_1 : l0_1.length ≤ c0_1) (h : num_Sound.f a0_0 l0_1 = some r) :
    Calls Tryd.prog 32 #[.agg #[.bool a0_0, .slice A0_1 l0_1.length c0_1]] w fun e w' => e = .returned (.bool r) ∧ Below w.heap.size w w' := by
  have hu24 := Tryd.underlying24
  have HR0_1 := Aside0.mk hr0_1
  have HC0_1 := Aside0.mk hc0_1
  clear hr0_1 hc0_1
  have HB := Aside0.mk (Below.refl w.heap.size w)
  have H : (if (l0_1.length : Int) = 0 then (some (!a0_0)) else (if (l0_1.length : Int) ≤ 64 then (if 0 ≤ (wrap64 ((l0_1.length : Int) - 1)) then (if (wrap64 ((l0_1.length : Int) - 1)) < (l0_1.length : Int) then (if (rd l0_1 (wrap64 ((l0_1.length : Int) - 1))) = 0 then (some false) else ((slices_ContainsFunc_uint32_uint32.f l0_1 57).bind fun t103 => (some (!t103)))) else (none)) else (none)) else (some false))) = some r := h
  clear h
  by_cases c2 : (l0_1.length : Int) = 0
  · rw [if_pos c2] at H
    have c2b0 : ((l0_1.length : Int) == 0) = true := beq_iff_eq.mpr c2
    have c2b1 : ((l0_1.length : Int) != 0) = false := bne_eq_false_iff_eq.mpr c2
    clear c2
    obtain rfl := Option.some.inj H
    go_enter Tryd.func32, Tryd.ntmps32
    go_wp2_with (first | ((with_reducible refine gate_dst (N := 1) rfl ?_); refine box_event ?hg (N := 1) ?hd (cs := #[.bool a0_0, .slice A0_1 l0_1.length c0_1]) (t := 24) ?hr ?_; (case hd => rfl); (case hg => rfl); (case hr => first | (go_simp; done) | (go_simp; rfl)); intro gb101 hg w3 hbox hb; have n0_ := Aside0.mk (below_step (by repeat (first | (with_reducible first | exact HB.out | apply below_alloc | apply pw_below_drewN | apply below_drew1) | exact HB.out)) hb); have n1_ := Aside0.mk (hbox); have n2_ := Aside0.mk ((by rw [hg]; exact (below_size (by repeat (first | (with_reducible first | exact HB.out | apply below_alloc | apply pw_below_drewN | apply below_drew1) | exact HB.out))) : w.heap.size ≤ gb101)); have n3_ := Aside0.mk ((by rw [hg]; exact (below_size (by repeat (first | (with_reducible first | exact HB.out | apply below_alloc | apply pw_below_drewN | apply below_drew1) | exact HB.out))) : w.heap.size ≤ gb101)); clear HB; have HB := n0_; have BK101 := n1_; have GW101 := n2_; have GE101 := n3_; clear n0_ n1_ n2_ n3_; clear hb hbox hg; have hcz4_0 : w3.cell? ⟨gb101, 0, none⟩ = some (.bool a0_0) := (blk_cell BK101.out 0).trans rfl; have hcz4_1 : w3.cell? ⟨gb101, 1, none⟩ = some (.slice A0_1 l0_1.length c0_1) := (blk_cell BK101.out 1).trans rfl; have hfz4_0 := blk_frozen BK101.out 0; have hfz4_1 := blk_frozen BK101.out 1))
    go_ret
    exact ⟨by first | rfl | (simp [errW_none, errW_some] <;> rfl) | (simp [*, errW_none, errW_some] <;> rfl), by repeat (first | (with_reducible first | exact HB.out | apply below_alloc | apply pw_below_drewN | apply below_drew1 | refine below_set ?_ GE101.out) | exact HB.out)⟩
  · rw [if_neg c2] at H
    have c2b0 : ((l0_1.length : Int) == 0) = false := beq_eq_false_iff_ne.mpr c2
    have c2b1 : ((l0_1.length : Int) != 0) = true := bne_iff_ne.mpr c2
    have c2b2 : ¬ (l0_1 = []) := fun h_ => c2 (by rw [h_]; rfl)
    by_cases c5 : (l0_1.length : Int) ≤ 64
    · rw [if_pos c5] at H
      have c5b0 : decide ((l0_1.length : Int) ≤ 64) = true := decide_eq_true c5
      have c5b1 : decide (l0_1.length ≤ 64) = true := decide_eq_true (by omega)
      clear c5
      obtain ⟨ji6, hji6⟩ : ∃ j_ : Int, (wrap64 ((l0_1.length : Int) - 1)) = j_ := ⟨_, rfl⟩
      replace H : (if 0 ≤ (ji6) then (if (ji6) < (l0_1.length : Int) then (if (rd l0_1 (ji6)) = 0 then (some false) else ((slices_ContainsFunc_uint32_uint32.f l0_1 57).bind fun t103 => (some (!t103)))) else (none)) else (none)) = some r := by first | (rw [hji6] at H; exact H) | (simp only [hji6] at H ⊢; exact H)
      have hji6w : (IntKind.i64.wrap ((l0_1.length : Int) - 1)) = ji6 := (i64_w _).trans hji6
      by_cases c7 : 0 ≤ (ji6)
      · rw [if_pos c7] at H
        have c7b0 : decide (0 ≤ (ji6)) = true := decide_eq_true c7
        clear c7
        by_cases c8 : (ji6) < (l0_1.length : Int)
        · rw [if_pos c8] at H
          have c8b0 : decide ((ji6) < (l0_1.length : Int)) = true := decide_eq_true c8
          clear c8
          by_cases c9 : (rd l0_1 (ji6)) = 0
          · rw [if_pos c9] at H
            have c9b0 : ((rd l0_1 (ji6)) == 0) = true := beq_iff_eq.mpr c9
            have c9b1 : ((rd l0_1 (ji6)) != 0) = false := bne_eq_false_iff_eq.mpr c9
            clear c9
            obtain rfl := Option.some.inj H
            go_enter Tryd.func32, Tryd.ntmps32
            go_wp2_with (first | ((with_reducible refine gate_dst (N := 1) rfl ?_); refine box_event ?hg (N := 1) ?hd (cs := #[.bool a0_0, .slice A0_1 l0_1.length c0_1]) (t := 24) ?hr ?_; (case hd => rfl); (case hg => rfl); (case hr => first | (go_simp; done) | (go_simp; rfl)); intro gb101 hg w10 hbox hb; have n0_ := Aside0.mk (below_step (by repeat (first | (with_reducible first | exact HB.out | apply below_alloc | apply pw_below_drewN | apply below_drew1) | exact HB.out)) hb); have n1_ := Aside0.mk (hbox); have n2_ := Aside0.mk ((by rw [hg]; exact (below_size (by repeat (first | (with_reducible first | exact HB.out | apply below_alloc | apply pw_below_drewN | apply below_drew1) | exact HB.out))) : w.heap.size ≤ gb101)); have n3_ := Aside0.mk ((by rw [hg]; exact (below_size (by repeat (first | (with_reducible first | exact HB.out | apply below_alloc | apply pw_below_drewN | apply below_drew1) | exact HB.out))) : w.heap.size ≤ gb101)); clear HB; have HB := n0_; have BK101 := n1_; have GW101 := n2_; have GE101 := n3_; clear n0_ n1_ n2_ n3_; clear hb hbox hg; have hcz11_0 : w10.cell? ⟨gb101, 0, none⟩ = some (.bool a0_0) := (blk_cell BK101.out 0).trans rfl; have hcz11_1 : w10.cell? ⟨gb101, 1, none⟩ = some (.slice A0_1 l0_1.length c0_1) := (blk_cell BK101.out 1).trans rfl; have hfz11_0 := blk_frozen BK101.out 0; have hfz11_1 := blk_frozen BK101.out 1; have p102 : 0 ≤ ((ji6) : Int) := of_decide_eq_true (by first | (with_reducible assumption) | assumption); have q102 : (ji6) < (l0_1.length : Int) := of_decide_eq_true (by first | (with_reducible assumption) | assumption); obtain ⟨ad102, e102, hx102_0⟩ := Kd.at_int HR0_1.out (ji6) p102 q102; cases e102; replace hx102_0 := (HB.out.cell (World.block_lt_of_cell? w _ hx102_0)).trans hx102_0; replace p102 := eq_true p102; replace q102 := eq_true q102))
            go_ret
            exact ⟨by first | rfl | (simp [errW_none, errW_some] <;> rfl) | (simp only [← hji6]; first | rfl | (simp [errW_none, errW_some] <;> rfl)) | (simp [*, errW_none, errW_some] <;> rfl), by repeat (first | (with_reducible first | exact HB.out | apply below_alloc | apply pw_below_drewN | apply below_drew1 | refine below_set ?_ GE101.out) | exact HB.out)⟩
          · rw [if_neg c9] at H
            have c9b0 : ((rd l0_1 (ji6)) == 0) = false := beq_eq_false_iff_ne.mpr c9
            have c9b1 : ((rd l0_1 (ji6)) != 0) = true := bne_iff_ne.mpr c9
            replace H := Option.bind_eq_some_iff.mp H
            obtain ⟨t103, A120, H⟩ := H
            replace H : (some (!t103)) = some r := H
            have A12 := Aside0.mk A120
            clear A120
            obtain rfl := Option.some.inj H
            go_enter Tryd.func32, Tryd.ntmps32
            go_wp2_with (first | ((with_reducible refine gate_dst (N := 1) rfl ?_); refine box_event ?hg (N := 1) ?hd (cs := #[.bool a0_0, .slice A0_1 l0_1.length c0_1]) (t := 24) ?hr ?_; (case hd => rfl); (case hg => rfl); (case hr => first | (go_simp; done) | (go_simp; rfl)); intro gb101 hg w13 hbox hb; have n0_ := Aside0.mk (below_step (by repeat (first | (with_reducible first | exact HB.out | apply below_alloc | apply pw_below_drewN | apply below_drew1) | exact HB.out)) hb); have n1_ := Aside0.mk (hbox); have n2_ := Aside0.mk ((by rw [hg]; exact (below_size (by repeat (first | (with_reducible first | exact HB.out | apply below_alloc | apply pw_below_drewN | apply below_drew1) | exact HB.out))) : w.heap.size ≤ gb101)); have n3_ := Aside0.mk ((by rw [hg]; exact (below_size (by repeat (first | (with_reducible first | exact HB.out | apply below_alloc | apply pw_below_drewN | apply below_drew1) | exact HB.out))) : w.heap.size ≤ gb101)); clear HB; have HB := n0_; have BK101 := n1_; have GW101 := n2_; have GE101 := n3_; clear n0_ n1_ n2_ n3_; clear hb hbox hg; have hcz14_0 : w13.cell? ⟨gb101, 0, none⟩ = some (.bool a0_0) := (blk_cell BK101.out 0).trans rfl; have hcz14_1 : w13.cell? ⟨gb101, 1, none⟩ = some (.slice A0_1 l0_1.length c0_1) := (blk_cell BK101.out 1).trans rfl; have hfz14_0 := blk_frozen BK101.out 0; have hfz14_1 := blk_frozen BK101.out 1; have p102 : 0 ≤ ((ji6) : Int) := of_decide_eq_true (by first | (with_reducible assumption) | assumption); have q102 : (ji6) < (l0_1.length : Int) := of_decide_eq_true (by first | (with_reducible assumption) | assumption); obtain ⟨ad102, e102, hx102_0⟩ := Kd.at_int HR0_1.out (ji6) p102 q102; cases e102; replace hx102_0 := (HB.out.cell (World.block_lt_of_cell? w _ hx102_0)).trans hx102_0; replace p102 := eq_true p102; replace q102 := eq_true q102) | (go_at_call 56; (with_reducible refine (slices_ContainsFunc_uint32_uint32.calls _ _ l0_1 57 t103 _ ?side1 ?side2 A12.out).mono ?_); (case side1 => repeat (first | exact (Kd.C_below HR0_1.out HB.out) | (with_reducible refine Kd.C_alloc ?_ _) | (with_reducible refine Kd.C_drewN ?_ _) | (with_reducible refine Kd.C_drew ?_))); (case side2 => exact HC0_1.out); rintro e w' ⟨rfl, ⟨nd, rfl⟩⟩))
            go_ret
            exact ⟨by first | rfl | (simp [errW_none, errW_some] <;> rfl) | (simp only [← hji6]; first | rfl | (simp [errW_none, errW_some] <;> rfl)) | (simp [*, errW_none, errW_some] <;> rfl), by repeat (first | (with_reducible first | exact HB.out | apply below_alloc | apply pw_below_drewN | apply below_drew1 | refine below_set ?_ GE101.out) | exact HB.out)⟩
        · rw [if_neg c8] at H
          exact absurd H (by simp)
      · rw [if_neg c7] at H
        exact absurd H (by simp)
    · rw [if_neg c5] at H
      have c5b0 : decide ((l0_1.length : Int) ≤ 64) = false := decide_eq_false c5
      have c5b1 : decide (l0_1.length ≤ 64) = false := decide_eq_false (by omega)
      clear c5
      obtain rfl := Option.some.inj H
      go_enter Tryd.func32, Tryd.ntmps32
      go_wp2_with (first | ((with_reducible refine gate_dst (N := 1) rfl ?_); refine box_event ?hg (N := 1) ?hd (cs := #[.bool a0_0, .slice A0_1 l0_1.length c0_1]) (t := 24) ?hr ?_; (case hd => rfl); (case hg => rfl); (case hr => first | (go_simp; done) | (go_simp; rfl)); intro gb101 hg w15 hbox hb; have n0_ := Aside0.mk (below_step (by repeat (first | (with_reducible first | exact HB.out | apply below_alloc | apply pw_below_drewN | apply below_drew1) | exact HB.out)) hb); have n1_ := Aside0.mk (hbox); have n2_ := Aside0.mk ((by rw [hg]; exact (below_size (by repeat (first | (with_reducible first | exact HB.out | apply below_alloc | apply pw_below_drewN | apply below_drew1) | exact HB.out))) : w.heap.size ≤ gb101)); have n3_ := Aside0.mk ((by rw [hg]; exact (below_size (by repeat (first | (with_reducible first | exact HB.out | apply below_alloc | apply pw_below_drewN | apply below_drew1) | exact HB.out))) : w.heap.size ≤ gb101)); clear HB; have HB := n0_; have BK101 := n1_; have GW101 := n2_; have GE101 := n3_; clear n0_ n1_ n2_ n3_; clear hb hbox hg; have hcz16_0 : w15.cell? ⟨gb101, 0, none⟩ = some (.bool a0_0) := (blk_cell BK101.out 0).trans rfl; have hcz16_1 : w15.cell? ⟨gb101, 1, none⟩ = some (.slice A0_1 l0_1.length c0_1) := (blk_cell BK101.out 1).trans rfl; have hfz16_0 := blk_frozen BK101.out 0; have hfz16_1 := blk_frozen BK101.out 1))
      go_ret
      exact ⟨by first | rfl | (simp [errW_none, errW_some] <;> rfl) | (simp [*, errW_none, errW_some] <;> rfl), by repeat (first | (with_reducible first | exact HB.out | apply below_alloc | apply pw_below_drewN | apply below_drew1 | refine below_set ?_ GE101.out) | exact HB.out)⟩

/-! ### num_Text: function 33 -/
theorem sound_facts (a : Bool) (l : List Int) (h : num_Sound.f a l = some true) (h0 : ¬ (l.length : Int) = 0) : l.length ≤ 64 ∧ ∀ x ∈ l, x < 1000000000 := by
  unfold num_Sound.f at h
  rw [if_neg h0] at h
  split at h
  · split at h
    · split at h
      · split at h
        · exact absurd h (by simp)
        · unfold slices_ContainsFunc_uint32_uint32.f at h
          rw [if_pos rfl] at h
          simp at h
          exact ⟨by omega, h⟩
      · exact absurd h (by simp)
    · exact absurd h (by simp)
  · exact absurd h (by simp)
def num_Text.f (a0_0 : Bool) (l0_1 : List Int) : Option ByteArray :=
  (num_Sound.f a0_0 l0_1).bind fun s => if s = true then (if l0_1.all (fun x => decide (0 ≤ x)) = false then none else if (l0_1.length : Int) = 0 then some ⟨#[48]⟩ else some ⟨((if a0_0 = true then [45] else []) ++ Txt.ltx l0_1 l0_1.length).toArray⟩) else some ⟨#[]⟩

set_option maxHeartbeats 2000000 in
set_option maxRecDepth 100000 in
theorem num_Text.calls (a0_0 : Bool) (A0_1 : Option Addr) (c0_1 : Nat) (l0_1 : List Int) (r : ByteArray) (w : World) (hr0_1 : Kd.C (Kd.int .u32) w A0_1 l0_1.length l0_1) (hc0_1 : l0_1.length ≤ c0_1) (hT : (∀ x ∈ l0_1, x < 100) ∨ Txt.TabP w) (h : num_Text.f a0_0 l0_1 = some r) :
    Calls Tryd.prog 33 #[.agg #[.bool a0_0, .slice A0_1 l0_1.length c0_1]] w fun e w' => e = .returned (.string r) ∧ Below w.heap.size w w' := by
  have hu24 := Tryd.underlying24
  have HR := Aside0.mk hr0_1
  have HC := Aside0.mk hc0_1
  have HT := Aside0.mk hT
  clear hr0_1 hc0_1 hT
  unfold num_Text.f at h
  obtain ⟨s, hs, h⟩ := Option.bind_eq_some_iff.mp h
  have HS := Aside0.mk hs
  clear hs
  cases s with
  | false =>
    obtain rfl := Option.some.inj h
    clear h
    go_enter Tryd.func33, Tryd.ntmps33
    go_wp2_with fail
    refine (num_Sound.calls _ _ _ _ false _ (Kd.C_alloc HR.out _) HC.out HS.out).mono ?_
    rintro e w1 ⟨rfl, hb⟩
    go_wp2
    go_ret
    exact ⟨rfl, below_then ((Below.refl _ _).alloc (Nat.le_refl _) _) (by simp) hb⟩
  | true =>
    rw [if_pos rfl] at h
    by_cases hpos : l0_1.all (fun x => decide (0 ≤ x)) = false
    · rw [if_pos hpos] at h
      exact absurd h (by simp)
    rw [if_neg hpos] at h
    have HP : Aside0 (∀ x ∈ l0_1, 0 ≤ x) := ⟨by simpa using hpos⟩
    clear hpos
    by_cases h0 : (l0_1.length : Int) = 0
    · rw [if_pos h0] at h
      obtain rfl := Option.some.inj h
      clear h
      have h0b : ((l0_1.length : Int) == 0) = true := by simpa using h0
      clear h0
      go_enter Tryd.func33, Tryd.ntmps33
      go_wp2_with fail
      refine (num_Sound.calls _ _ _ _ true _ (Kd.C_alloc HR.out _) HC.out HS.out).mono ?_
      rintro e w1 ⟨rfl, hb⟩
      have hx1 : w1.cell? ⟨w.heap.size, 1, none⟩ = some (.slice A0_1 l0_1.length c0_1) := by
        rw [hb.cell (by simp)]
        simp
      go_wp2
      go_ret
      exact ⟨rfl, below_then ((Below.refl _ _).alloc (Nat.le_refl _) _) (by simp) hb⟩
    · rw [if_neg h0] at h
      obtain rfl := Option.some.inj h
      clear h
      have h0b : ((l0_1.length : Int) == 0) = false := by simpa using h0
      go_enter Tryd.func33, Tryd.ntmps33
      go_wp2_with fail
      refine (num_Sound.calls _ _ _ _ true _ (Kd.C_alloc HR.out _) HC.out HS.out).mono ?_
      rintro e w1 ⟨rfl, hb⟩
      have hx1 : w1.cell? ⟨w.heap.size, 1, none⟩ = some (.slice A0_1 l0_1.length c0_1) := by
        rw [hb.cell (by simp)]
        simp
      have hx0 : w1.cell? ⟨w.heap.size, 0, none⟩ = some (.bool a0_0) := by
        rw [hb.cell (by simp)]
        simp
      have hwl : w.heap.size < w1.heap.size := by have := hb.size; simp at this; omega
      have hbw : Below w.heap.size w w1 := below_then ((Below.refl _ _).alloc (Nat.le_refl _) _) (by simp) hb
      obtain ⟨hl64, hlim⟩ := sound_facts a0_0 l0_1 HS.out h0
      have HL := Aside0.mk hlim
      clear hlim
      have hlpos : 0 < l0_1.length := by omega
      clear h0
      have hnew := Lib.fresh_isBuilder 74 5 w1
      obtain ⟨pre, hpre⟩ : ∃ p : List UInt8, p = (if a0_0 = true then [45] else []) := ⟨_, rfl⟩
      have HPRE := Aside0.mk hpre
      clear hpre
      cases a0_0 with
      | true =>
        go_wp2_with fail
        refine (Bld.WriteByte w1.heap.size w1.heap.size [] 45 _ hnew (by simp) (by simp)).mono ?_
        rintro e w2 ⟨rfl, hat, hb2⟩
        have hIs : Lib.IsBuilder 74 5 w1.heap.size w1.heap.size (Lib.byteCells (pre ++ Txt.ltx l0_1 0)) w2 := by rw [HPRE.out]; exact .inr hat
        have hB2 : Below w1.heap.size w1 w2 := ((Below.refl _ _).alloc (Nat.le_refl _) _).trans hb2
        clear hat hb2 hnew
        have hy1 : w2.cell? ⟨w.heap.size, 1, none⟩ = some (.slice A0_1 l0_1.length c0_1) := by
          rw [hB2.cell (p := ⟨w.heap.size, 1, none⟩) hwl]; exact hx1
        go_wp2
        go_loopg [4] l0_1.length (fun gg s4 W => ∃ (k : Nat) (m : Int), k ≤ l0_1.length ∧ l0_1.length - k ≤ gg ∧ Aside0 (m = (l0_1.length : Int) - 1 - k) ∧ s4 = .int .i64 m ∧ Aside0 (Lib.IsBuilder 74 5 w1.heap.size w1.heap.size (Lib.byteCells (pre ++ Txt.ltx l0_1 k)) W) ∧ Aside0 (Below w1.heap.size w1 W) ∧ Aside0 ((pre ++ Txt.ltx l0_1 k).length ≤ 1 + 9 * k))
        case atStart => exact ⟨0, (l0_1.length : Int) - 1, Nat.zero_le _, by omega, ⟨by omega⟩, rfl, ⟨hIs⟩, ⟨hB2⟩, ⟨by rw [HPRE.out]; simp [Txt.ltx]⟩⟩
        case round =>
          clear hIs hB2 hy1
          obtain ⟨k, m, hk, hg, HM, rfl, HI, HB, HN⟩ := hrel
          have hbW : Below w.heap.size w wr := below_then hbw hbw.size HB.out
          have hBs : w1.heap.size ≤ wr.heap.size := HB.out.size
          have hy1 : wr.cell? ⟨w.heap.size, 1, none⟩ = some (.slice A0_1 l0_1.length c0_1) := by
            rw [HB.out.cell (p := ⟨w.heap.size, 1, none⟩) hwl]; exact hx1
          by_cases hlt : k < l0_1.length
          · have hm0 : 0 ≤ m := by have := HM.out; omega
            have hm1 : m < (l0_1.length : Int) := by have := HM.out; omega
            obtain ⟨ad, rfl, hcell⟩ := Kd.at_int (Kd.C_below HR.out hbW) m hm0 hm1
            have hmem := Txt.rd_mem l0_1 m hm0 hm1
            have hy0 : 0 ≤ rd l0_1 m := HP.out _ hmem
            have hy9 : rd l0_1 m < 1000000000 := HL.out _ hmem
            have hTy : rd l0_1 m < 100 ∨ Txt.TabP wr := HT.out.imp (fun h => h _ hmem) (fun h => h.below hbW)
            generalize hyy : rd l0_1 m = y at hcell hy0 hy9 hTy
            have HY := Aside0.mk hyy
            have HTy := Aside0.mk hTy
            clear hyy hmem hTy
            by_cases hk0 : k = 0
            · have hz : decide (m < (l0_1.length : Int) - 1) = false := decide_eq_false (by have := HM.out; omega)
              go_wp2_with fail
              refine (Txt.itoa_any y hy0 (by omega) _ HTy.out).mono ?_
              rintro e w3 ⟨s, rfl, HSs, hb3⟩
              have hs9 : s.size ≤ 9 := by rw [HSs.out]; exact (Txt.itoa_size y hy0 hy9).2
              have HBW3 := Aside0.mk (below_then HB.out hBs hb3)
              have HI3 := Aside0.mk (Txt.isB_below HI.out hb3)
              have HX3 := Aside0.mk (show w3.cell? ⟨w.heap.size, 1, none⟩ = some (.slice (some ad) l0_1.length c0_1) by
                rw [HBW3.out.cell (p := ⟨w.heap.size, 1, none⟩) hwl]; exact hx1)
              clear hb3 hy1 hcell
              have hy31 := HX3.out
              go_wp2_with fail
              refine (Bld.WriteString w1.heap.size w1.heap.size _ s _ HI3.out (by have := HN.out; rw [Lib.byteCells_length]; omega) HBW3.out.size).mono ?_
              rintro e w4 ⟨rfl, hat, hb4⟩
              go_wp2
              go_roundg (l0_1.length - (k + 1))
              case measure => omega
              case rel =>
                refine ⟨k + 1, m - 1, by omega, by omega, ⟨by have := HM.out; omega⟩, rfl, ⟨.inr ?_⟩, ⟨HBW3.out.trans hb4⟩, ⟨?_⟩⟩
                · refine Txt.cast_at hat ?_
                  rw [Txt.ltx_zero l0_1 k m y s pre hk0 HM.out HY.out HSs.out]
                · exact Txt.ltx_len l0_1 k m y pre HN.out HM.out HY.out (Txt.itoa_size y hy0 hy9)
            · have hz : decide (m < (l0_1.length : Int) - 1) = true := decide_eq_true (by have := HM.out; omega)
              go_wp2_with fail
              refine (Txt.itoa_any y hy0 (by omega) _ HTy.out).mono ?_
              rintro e w3 ⟨s, rfl, HSs, hb3⟩
              have hs9 : s.size ≤ 9 := by rw [HSs.out]; exact (Txt.itoa_size y hy0 hy9).2
              have HBW3 := Aside0.mk (below_then HB.out hBs hb3)
              have HI3 := Aside0.mk (Txt.isB_below HI.out hb3)
              have HX3 := Aside0.mk (show w3.cell? ⟨w.heap.size, 1, none⟩ = some (.slice (some ad) l0_1.length c0_1) by
                rw [HBW3.out.cell (p := ⟨w.heap.size, 1, none⟩) hwl]; exact hx1)
              clear hb3 hy1 hcell
              have hy31 := HX3.out
              go_wp2_with fail
              refine (Txt.repeat_any ⟨#[48]⟩ (9 - (s.size : Int)) _ (by omega) (by omega) (by show 1 * _ ≤ _; omega)).mono ?_
              rintro e w4 ⟨z, rfl, HZ, hb4⟩
              have HI4 := Aside0.mk (Txt.isB_below HI3.out hb4)
              have HBW4 := Aside0.mk (below_then HBW3.out HBW3.out.size hb4)
              have hz9 : z.size ≤ 9 := by rw [HZ.out]; exact Txt.zsize s.size
              clear hb4 hy31
              go_wp2_with fail
              refine (Bld.WriteString w1.heap.size w1.heap.size _ z _ HI4.out (by have := HN.out; rw [Lib.byteCells_length]; omega) HBW4.out.size).mono ?_
              rintro e w5 ⟨rfl, hat5, hb5⟩
              have HI5 : Aside0 (Lib.IsBuilder 74 5 w1.heap.size w1.heap.size (Lib.byteCells (pre ++ Txt.ltx l0_1 k) ++ Lib.strCells z) w5) := ⟨.inr hat5⟩
              have HBW5 := Aside0.mk (HBW4.out.trans hb5)
              clear hb5 hat5
              go_wp2_with fail
              refine (Bld.WriteString w1.heap.size w1.heap.size _ s _ HI5.out (by have := HN.out; rw [List.length_append, Lib.byteCells_length, Lib.strCells_length]; omega) HBW5.out.size).mono ?_
              rintro e w6 ⟨rfl, hat, hb6⟩
              go_wp2
              go_roundg (l0_1.length - (k + 1))
              case measure => omega
              case rel =>
                refine ⟨k + 1, m - 1, by omega, by omega, ⟨by have := HM.out; omega⟩, rfl, ⟨.inr ?_⟩, ⟨HBW5.out.trans hb6⟩, ⟨?_⟩⟩
                · refine Txt.cast_at hat ?_
                  rw [Txt.ltx_succ l0_1 k m y s z pre hk0 HM.out HY.out HSs.out HZ.out]
                · exact Txt.ltx_len l0_1 k m y pre HN.out HM.out HY.out (Txt.itoa_size y hy0 hy9)
          · have hkl : k = l0_1.length := by omega
            have hm0 : m < 0 := by have := HM.out; omega
            go_wp2_with fail
            refine (Tryd.Builder_String_any w1.heap.size w1.heap.size (pre ++ Txt.ltx l0_1 k) _ HI.out hBs).mono ?_
            rintro e w3 ⟨rfl, hb3⟩
            go_wp2
            go_ret
            exact ⟨by have hp := HPRE.out; subst hp; subst hkl; rfl, below_then hbw hbw.size (HB.out.trans hb3)⟩
      | false =>
        have hIs : Lib.IsBuilder 74 5 w1.heap.size w1.heap.size (Lib.byteCells (pre ++ Txt.ltx l0_1 0)) (w1.alloc (.cells #[.pointer none, .slice none 0 0] 74)) := by rw [HPRE.out]; exact hnew
        have hB2 : Below w1.heap.size w1 (w1.alloc (.cells #[.pointer none, .slice none 0 0] 74)) := (Below.refl _ _).alloc (Nat.le_refl _) _
        clear hnew
        go_wp2
        go_loopg [4] l0_1.length (fun gg s4 W => ∃ (k : Nat) (m : Int), k ≤ l0_1.length ∧ l0_1.length - k ≤ gg ∧ Aside0 (m = (l0_1.length : Int) - 1 - k) ∧ s4 = .int .i64 m ∧ Aside0 (Lib.IsBuilder 74 5 w1.heap.size w1.heap.size (Lib.byteCells (pre ++ Txt.ltx l0_1 k)) W) ∧ Aside0 (Below w1.heap.size w1 W) ∧ Aside0 ((pre ++ Txt.ltx l0_1 k).length ≤ 1 + 9 * k))
        case atStart => exact ⟨0, (l0_1.length : Int) - 1, Nat.zero_le _, by omega, ⟨by omega⟩, rfl, ⟨hIs⟩, ⟨hB2⟩, ⟨by rw [HPRE.out]; simp [Txt.ltx]⟩⟩
        case round =>
          clear hIs hB2
          obtain ⟨k, m, hk, hg, HM, rfl, HI, HB, HN⟩ := hrel
          have hbW : Below w.heap.size w wr := below_then hbw hbw.size HB.out
          have hBs : w1.heap.size ≤ wr.heap.size := HB.out.size
          have hy1 : wr.cell? ⟨w.heap.size, 1, none⟩ = some (.slice A0_1 l0_1.length c0_1) := by
            rw [HB.out.cell (p := ⟨w.heap.size, 1, none⟩) hwl]; exact hx1
          by_cases hlt : k < l0_1.length
          · have hm0 : 0 ≤ m := by have := HM.out; omega
            have hm1 : m < (l0_1.length : Int) := by have := HM.out; omega
            obtain ⟨ad, rfl, hcell⟩ := Kd.at_int (Kd.C_below HR.out hbW) m hm0 hm1
            have hmem := Txt.rd_mem l0_1 m hm0 hm1
            have hy0 : 0 ≤ rd l0_1 m := HP.out _ hmem
            have hy9 : rd l0_1 m < 1000000000 := HL.out _ hmem
            have hTy : rd l0_1 m < 100 ∨ Txt.TabP wr := HT.out.imp (fun h => h _ hmem) (fun h => h.below hbW)
            generalize hyy : rd l0_1 m = y at hcell hy0 hy9 hTy
            have HY := Aside0.mk hyy
            have HTy := Aside0.mk hTy
            clear hyy hmem hTy
            by_cases hk0 : k = 0
            · have hz : decide (m < (l0_1.length : Int) - 1) = false := decide_eq_false (by have := HM.out; omega)
              go_wp2_with fail
              refine (Txt.itoa_any y hy0 (by omega) _ HTy.out).mono ?_
              rintro e w3 ⟨s, rfl, HSs, hb3⟩
              have hs9 : s.size ≤ 9 := by rw [HSs.out]; exact (Txt.itoa_size y hy0 hy9).2
              have HBW3 := Aside0.mk (below_then HB.out hBs hb3)
              have HI3 := Aside0.mk (Txt.isB_below HI.out hb3)
              have HX3 := Aside0.mk (show w3.cell? ⟨w.heap.size, 1, none⟩ = some (.slice (some ad) l0_1.length c0_1) by
                rw [HBW3.out.cell (p := ⟨w.heap.size, 1, none⟩) hwl]; exact hx1)
              clear hb3 hy1 hcell
              have hy31 := HX3.out
              go_wp2_with fail
              refine (Bld.WriteString w1.heap.size w1.heap.size _ s _ HI3.out (by have := HN.out; rw [Lib.byteCells_length]; omega) HBW3.out.size).mono ?_
              rintro e w4 ⟨rfl, hat, hb4⟩
              go_wp2
              go_roundg (l0_1.length - (k + 1))
              case measure => omega
              case rel =>
                refine ⟨k + 1, m - 1, by omega, by omega, ⟨by have := HM.out; omega⟩, rfl, ⟨.inr ?_⟩, ⟨HBW3.out.trans hb4⟩, ⟨?_⟩⟩
                · refine Txt.cast_at hat ?_
                  rw [Txt.ltx_zero l0_1 k m y s pre hk0 HM.out HY.out HSs.out]
                · exact Txt.ltx_len l0_1 k m y pre HN.out HM.out HY.out (Txt.itoa_size y hy0 hy9)
            · have hz : decide (m < (l0_1.length : Int) - 1) = true := decide_eq_true (by have := HM.out; omega)
              go_wp2_with fail
              refine (Txt.itoa_any y hy0 (by omega) _ HTy.out).mono ?_
              rintro e w3 ⟨s, rfl, HSs, hb3⟩
              have hs9 : s.size ≤ 9 := by rw [HSs.out]; exact (Txt.itoa_size y hy0 hy9).2
              have HBW3 := Aside0.mk (below_then HB.out hBs hb3)
              have HI3 := Aside0.mk (Txt.isB_below HI.out hb3)
              have HX3 := Aside0.mk (show w3.cell? ⟨w.heap.size, 1, none⟩ = some (.slice (some ad) l0_1.length c0_1) by
                rw [HBW3.out.cell (p := ⟨w.heap.size, 1, none⟩) hwl]; exact hx1)
              clear hb3 hy1 hcell
              have hy31 := HX3.out
              go_wp2_with fail
              refine (Txt.repeat_any ⟨#[48]⟩ (9 - (s.size : Int)) _ (by omega) (by omega) (by show 1 * _ ≤ _; omega)).mono ?_
              rintro e w4 ⟨z, rfl, HZ, hb4⟩
              have HI4 := Aside0.mk (Txt.isB_below HI3.out hb4)
              have HBW4 := Aside0.mk (below_then HBW3.out HBW3.out.size hb4)
              have hz9 : z.size ≤ 9 := by rw [HZ.out]; exact Txt.zsize s.size
              clear hb4 hy31
              go_wp2_with fail
              refine (Bld.WriteString w1.heap.size w1.heap.size _ z _ HI4.out (by have := HN.out; rw [Lib.byteCells_length]; omega) HBW4.out.size).mono ?_
              rintro e w5 ⟨rfl, hat5, hb5⟩
              have HI5 : Aside0 (Lib.IsBuilder 74 5 w1.heap.size w1.heap.size (Lib.byteCells (pre ++ Txt.ltx l0_1 k) ++ Lib.strCells z) w5) := ⟨.inr hat5⟩
              have HBW5 := Aside0.mk (HBW4.out.trans hb5)
              clear hb5 hat5
              go_wp2_with fail
              refine (Bld.WriteString w1.heap.size w1.heap.size _ s _ HI5.out (by have := HN.out; rw [List.length_append, Lib.byteCells_length, Lib.strCells_length]; omega) HBW5.out.size).mono ?_
              rintro e w6 ⟨rfl, hat, hb6⟩
              go_wp2
              go_roundg (l0_1.length - (k + 1))
              case measure => omega
              case rel =>
                refine ⟨k + 1, m - 1, by omega, by omega, ⟨by have := HM.out; omega⟩, rfl, ⟨.inr ?_⟩, ⟨HBW5.out.trans hb6⟩, ⟨?_⟩⟩
                · refine Txt.cast_at hat ?_
                  rw [Txt.ltx_succ l0_1 k m y s z pre hk0 HM.out HY.out HSs.out HZ.out]
                · exact Txt.ltx_len l0_1 k m y pre HN.out HM.out HY.out (Txt.itoa_size y hy0 hy9)
          · have hkl : k = l0_1.length := by omega
            have hm0 : m < 0 := by have := HM.out; omega
            go_wp2_with fail
            refine (Tryd.Builder_String_any w1.heap.size w1.heap.size (pre ++ Txt.ltx l0_1 k) _ HI.out hBs).mono ?_
            rintro e w3 ⟨rfl, hb3⟩
            go_wp2
            go_ret
            exact ⟨by have hp := HPRE.out; subst hp; subst hkl; rfl, below_then hbw hbw.size (HB.out.trans hb3)⟩

/-! ### num_Of: function 35 -/
mutual
def num_Of.j0 : Nat → Int → Int → Option (Bool × List Int)
  | 0, _, _ => none
  | k + 1, x0, x3 => num_Of.l0 k x0 x3 ([] : List Int)
def num_Of.l0 : Nat → Int → Int → List Int → Option (Bool × List Int)
  | 0, _, _, _ => none
  | k + 1, x0, x3, x4 => if x3 > 0 then (if x4.length < 35184372088832 then (num_Of.l0 k x0 (IntKind.u64.wrap (Int.tdiv x3 1000000000)) (x4 ++ [(Int.tmod x3 1000000000) % 4294967296])) else (none)) else (some (decide (x0 < 0), x4))
end
def num_Of.f (k : Nat) (a0 : Int) : Option (Bool × List Int) := if a0 < 0 then (num_Of.j0 k a0 (IntKind.u64.wrap (-(IntKind.u64.wrap (a0))))) else (num_Of.j0 k a0 (IntKind.u64.wrap (a0)))
theorem num_Of.mono_l : ∀ k, (∀ y0 y1, LeO (num_Of.j0 k y0 y1) (num_Of.j0 (k + 1) y0 y1)) ∧ (∀ y0 y1 y2, LeO (num_Of.l0 k y0 y1 y2) (num_Of.l0 (k + 1) y0 y1 y2))
  | 0 => ⟨fun _ _ r h => by simp [num_Of.j0] at h, fun _ _ _ r h => by simp [num_Of.l0] at h⟩
  | k + 1 => by
    obtain ⟨ih0, ih1⟩ := num_Of.mono_l k
    refine ⟨?_, ?_⟩
    · intro y0 y1
      unfold num_Of.j0
      repeat' first
      | (with_reducible exact ih0 _ _)
      | (with_reducible exact ih1 _ _ _)
      | (with_reducible exact LeO.refl _)
      | (with_reducible exact LeO.none _)
      | (with_reducible refine LeO.ite ?_ ?_)
      | (with_reducible refine LeO.bind ?_ (fun _ => ?_))
      | exact ih0 _ _
      | exact ih1 _ _ _
      | exact LeO.none _
      | refine LeO.ite ?_ ?_
      | refine LeO.bind ?_ (fun _ => ?_)
    · intro y0 y1 y2
      unfold num_Of.l0
      repeat' first
      | (with_reducible exact ih0 _ _)
      | (with_reducible exact ih1 _ _ _)
      | (with_reducible exact LeO.refl _)
      | (with_reducible exact LeO.none _)
      | (with_reducible refine LeO.ite ?_ ?_)
      | (with_reducible refine LeO.bind ?_ (fun _ => ?_))
      | exact ih0 _ _
      | exact ih1 _ _ _
      | exact LeO.none _
      | refine LeO.ite ?_ ?_
      | refine LeO.bind ?_ (fun _ => ?_)
theorem num_Of.mono : ∀ a0 k, LeO (num_Of.f k a0) (num_Of.f (k + 1) a0) := by
  intro a0 k
  obtain ⟨ih0, ih1⟩ := num_Of.mono_l k
  unfold num_Of.f
  repeat' first
      | (with_reducible exact ih0 _ _)
      | (with_reducible exact ih1 _ _ _)
      | (with_reducible exact LeO.refl _)
      | (with_reducible exact LeO.none _)
      | (with_reducible refine LeO.ite ?_ ?_)
      | (with_reducible refine LeO.bind ?_ (fun _ => ?_))
      | exact ih0 _ _
      | exact ih1 _ _ _
      | exact LeO.none _
      | refine LeO.ite ?_ ?_
      | refine LeO.bind ?_ (fun _ => ?_)
set_option maxHeartbeats 8000000 in
set_option maxRecDepth 100000 in
theorem num_Of.calls (k : Nat) (a0 : Int) (r1 : Bool) (r2 : List Int) (w : World) (h : num_Of.f k a0 = some (r1, r2)) :
    Calls Tryd.prog 35 #[.int .i64 a0] w fun e w' => ∃ v1_ : Value, e = .returned (.agg #[.bool r1, v1_]) ∧ Kd.R (Kd.int .u32) 48 w' w.heap.size (fun _ => True) v1_ r2 ∧ Below w.heap.size w w' := by
  have hu24 := Tryd.underlying24
  have HB := Aside0.mk (Below.refl w.heap.size w)
  have H : (if a0 < 0 then (num_Of.j0 k a0 (IntKind.u64.wrap (-(IntKind.u64.wrap (a0))))) else (num_Of.j0 k a0 (IntKind.u64.wrap (a0)))) = some (r1, r2) := h
  clear h
  have HC2 := Aside0.mk H
  clear H
  go_enter Tryd.func35, Tryd.ntmps35
  go_upto_if 8 with (first | ((with_reducible refine gate_dst (N := 2) rfl ?_); refine box_event ?hg (N := 2) ?hd (cs := #[.bool false, .slice none 0 0]) (t := 24) ?hr ?_; (case hd => rfl); (case hg => rfl); (case hr => first | (go_simp; done) | (go_simp; rfl)); intro gb104 hg w3 hbox hb; have n0_ := Aside0.mk (below_step (by repeat (first | (with_reducible first | exact HB.out | apply below_alloc | apply pw_below_drewN | apply below_drew1) | exact HB.out)) hb); have n1_ := Aside0.mk (hbox); have n2_ := Aside0.mk ((by rw [hg]; exact (below_size (by repeat (first | (with_reducible first | exact HB.out | apply below_alloc | apply pw_below_drewN | apply below_drew1) | exact HB.out))) : w.heap.size ≤ gb104)); have n3_ := Aside0.mk ((by rw [hg]; exact (below_size (by repeat (first | (with_reducible first | exact HB.out | apply below_alloc | apply pw_below_drewN | apply below_drew1) | exact HB.out))) : w.heap.size ≤ gb104)); clear HB; have HB := n0_; have BK104 := n1_; have GW104 := n2_; have GE104 := n3_; clear n0_ n1_ n2_ n3_; clear hb hbox hg))
  (try simp only [Act.put, List.setIfInBounds_toArray, List.set_cons_zero, List.set_cons_succ])
  go_cut [3] (fun v3 wc => ∃ (kq : Nat) (x3_1 : Int), v3 = .int .u64 x3_1 ∧ Aside0 (num_Of.j0 kq a0 x3_1 = some (r1, r2)) ∧ Aside0 (kq ≤ k) ∧ Aside0 (wc.heap[gb104]? = some (.cells #[.bool false, (.slice none 0 0)] 24 (0, 0))) ∧ Aside0 (Below w.heap.size w wc))
  case first =>
    have H := HC2.out
    clear HC2
    by_cases c4 : a0 < 0
    · rw [if_pos c4] at H
      have c4b0 : decide (a0 < 0) = true := decide_eq_true c4
      clear c4
      (first | rw [c4b0] | (simp only [i64_w, i32_w]; rw [c4b0]) | skip)
      have H' := Aside0.mk H
      clear H
      go_wp2
      go_meet
      case rel => exact ⟨_, (IntKind.u64.wrap (-(IntKind.u64.wrap (a0)))), (by first | rfl | (simp; done) | (simp [*]; done)), H', ⟨by first | omega | exact Nat.le_refl _⟩, ⟨by (with_reducible repeat (first | refine blk_drewN ?_ _ | refine blk_drew ?_ | refine blk_alloc ?_ _)); exact BK104.out⟩, ⟨by repeat (first | (with_reducible first | exact HB.out | apply below_alloc | apply pw_below_drewN | apply below_drew1 | refine below_set ?_ GE104.out) | exact HB.out)⟩⟩
    · rw [if_neg c4] at H
      have c4b0 : decide (a0 < 0) = false := decide_eq_false c4
      clear c4
      (first | rw [c4b0] | (simp only [i64_w, i32_w]; rw [c4b0]) | skip)
      have H' := Aside0.mk H
      clear H
      go_wp2
      go_meet
      case rel => exact ⟨_, (IntKind.u64.wrap (a0)), (by first | rfl | (simp; done) | (simp [*]; done)), H', ⟨by first | omega | exact Nat.le_refl _⟩, ⟨by (with_reducible repeat (first | refine blk_drewN ?_ _ | refine blk_drew ?_ | refine blk_alloc ?_ _)); exact BK104.out⟩, ⟨by repeat (first | (with_reducible first | exact HB.out | apply below_alloc | apply pw_below_drewN | apply below_drew1 | refine below_set ?_ GE104.out) | exact HB.out)⟩⟩
  case rest =>
    clear HC2
    try clear p2
    try clear c3
    try clear c4
    try clear c4b0
    obtain ⟨kq, x3_1, rfl, HA, HJ1, BK104, HB⟩ := hcut
    cases kq with
    | zero => exact absurd HA.out (by simp [num_Of.j0])
    | succ kj1 =>
      have H := HA.out
      clear HA
      simp only [num_Of.j0] at H
      have H' := Aside0.mk H
      clear H
      go_wp2
      go_loopg [3, 4] kj1 (fun kq v3 v4 w' => ∃ (x3_2 : Int) (x4_2 : List Int), v3 = .int .u64 x3_2 ∧ Aside0 (num_Of.l0 kq a0 x3_2 x4_2 = some (r1, r2)) ∧ Aside0 (kq ≤ kj1) ∧ Aside0 (Kd.R (Kd.int .u32) 48 w' w.heap.size (fun _ => True) v4 x4_2) ∧ Aside0 (w'.heap[gb104]? = some (.cells #[.bool false, (.slice none 0 0)] 24 (0, 0))) ∧ Aside0 (Below w.heap.size w w'))
      case atStart => exact ⟨(x3_1), (([] : List Int)), (by first | rfl | (simp; done) | (simp [*]; done)), H', ⟨Nat.le_refl _⟩, ⟨by first | exact Kd.R_nil _ _ _ _ _ | exact Kd.N_nil _ _ _ _ _ | exact Kd.V_nil _ _ _ _ _ | exact Kd.Q_nil _ _ _ _ _ | exact Kd.S_nil _ _ _ _ _⟩, ⟨by (with_reducible repeat (first | refine blk_drewN ?_ _ | refine blk_drew ?_ | refine blk_alloc ?_ _)); exact BK104.out⟩, ⟨by repeat (first | (with_reducible first | exact HB.out | apply below_alloc | apply pw_below_drewN | apply below_drew1 | refine below_set ?_ GE104.out) | exact HB.out)⟩⟩
      case round =>
        clear H'
        try clear p2
        try clear c3
        try clear c4
        try clear c4b0
        try clear p2
        obtain ⟨x3_2, x4_2, rfl, HA, HK2, HO_4, BK104, HB⟩ := hrel
        cases gk with
        | zero => exact absurd HA.out (by simp [num_Of.l0])
        | succ k2 =>
          have H := HA.out
          clear HA
          simp only [num_Of.l0] at H
          by_cases c5 : x3_2 > 0
          · rw [if_pos c5] at H
            have c5b0 : decide (0 < x3_2) = true := decide_eq_true c5
            clear c5
            by_cases c6 : x4_2.length < 35184372088832
            · rw [if_pos c6] at H
              have LMc6 := Aside0.mk c6
              clear c6
              obtain ⟨y105, hy105⟩ : ∃ y_ : List Int, y_ = (x4_2 ++ [(Int.tmod x3_2 1000000000) % 4294967296]) := ⟨_, rfl⟩
              replace H : (num_Of.l0 k2 a0 (IntKind.u64.wrap (Int.tdiv x3_2 1000000000)) y105) = some (r1, r2) := by first | (rw [hy105]; with_reducible exact H) | (have H2_ := (Option.bind_some _ _).symm.trans H; rw [hy105]; with_reducible exact H2_) | (have H2_ := (Option.bind_some _ _).symm.trans H; with_reducible exact H2_) | with_reducible exact H | (rw [hy105]; exact H) | exact H
              have Ny105 := Aside0.mk hy105
              clear hy105
              have H' := Aside0.mk H
              clear H
              go_wp2_with (first | ((with_reducible refine gate_builtin (b := .append) (xs := #[.tmp 15, .tmp 19]) rfl ?_); at_builtin; refine Kd.R_append (Kd.int .u32) (w0 := w) w.heap.size rfl (.tmp 15) (.tmp 19) 22 48 (.int .u32 0) 4 rfl Tryd.underlying22 info48 rfl (by decide) (by omega) u4 x4_2 ((Int.tmod x3_2 1000000000) % 4294967296) [.int .u32 ((Int.tmod x3_2 1000000000) % 4294967296)] (fun _ => True) (fun _ => False) rfl rfl ?aP (fun _ hk => hk.elim) ?aF ?aO ?aB ?aS ?aL ?_; (case aP => exact rfl); (case aB => exact (by repeat (first | (with_reducible first | exact HB.out | apply below_alloc | apply pw_below_drewN | apply below_drew1 | refine below_set ?_ GE104.out) | exact HB.out))); (case aF => exact (fun _ _ => trivial)); (case aO => exact (by (with_reducible repeat (first | apply Kd.R_alloc | apply Kd.R_drewN | apply Kd.R_drew)); exact HO_4.out)); (case aS => exact (below_size (by repeat (first | (with_reducible first | exact HB.out | apply below_alloc | apply pw_below_drewN | apply below_drew1 | refine below_set ?_ GE104.out) | exact HB.out)))); (case aL => have := LMc6.out; omega); intro v106 w7 ho hb hg hat; rw [← Ny105.out] at ho; have n0_ := Aside0.mk (blk_grown (g := gb104) (o := .cells #[.bool false, .slice none 0 0] 24 (0, 0)) (by (with_reducible repeat (first | refine blk_drewN ?_ _ | refine blk_drew ?_ | refine blk_alloc ?_ _)); exact BK104.out) hg (Kd.R_ne HO_4.out BK104.out (by decide))); have n1_ := Aside0.mk (hb); have n2_ := Aside0.mk (ho); clear BK104; clear HB; clear HO_4; have BK104 := n0_; have HB := n1_; have HO107 := n2_; clear n0_ n1_ n2_; clear ho hb hg hat))
              go_roundg k2
              case measure => have := HJ1.out; have := HK2.out; omega
              case rel => exact ⟨(IntKind.u64.wrap (Int.tdiv x3_2 1000000000)), (y105), (by first | rfl | (simp; done) | (simp [*]; done)), H', ⟨by have := HJ1.out; have := HK2.out; omega⟩, ⟨by (with_reducible repeat (first | apply Kd.R_alloc | apply Kd.R_drewN | apply Kd.R_drew)); exact HO107.out⟩, ⟨by (with_reducible repeat (first | refine blk_drewN ?_ _ | refine blk_drew ?_ | refine blk_alloc ?_ _)); exact BK104.out⟩, ⟨by repeat (first | (with_reducible first | exact HB.out | apply below_alloc | apply pw_below_drewN | apply below_drew1 | refine below_set ?_ GE104.out) | exact HB.out)⟩⟩
            · rw [if_neg c6] at H
              exact absurd H (by simp)
          · rw [if_neg c5] at H
            have c5b0 : decide (0 < x3_2) = false := decide_eq_false c5
            clear c5
            simp only [Option.some.injEq, Prod.mk.injEq] at H
            obtain ⟨rfl, rfl⟩ := H
            obtain ⟨Ao8, co8, eo8⟩ := Kd.R_slice HO_4.out
            subst eo8
            have hcz9_0 : wr.cell? ⟨gb104, 0, none⟩ = some (.bool false) := (blk_cell BK104.out 0).trans rfl
            have hcz9_1 : wr.cell? ⟨gb104, 1, none⟩ = some (.slice none 0 0) := (blk_cell BK104.out 1).trans rfl
            have hfz9_0 := blk_frozen BK104.out 0
            have hfz9_1 := blk_frozen BK104.out 1
            go_wp2
            refine bodyPost_ret (results_cell_row rfl _ _ gb104 24 #[.bool (decide (a0 < 0)), .slice Ao8 x4_2.length co8] (0, 0) _ rfl (by (with_reducible repeat (first | refine blk_drewN ?_ _ | refine blk_drew ?_ | refine blk_alloc ?_ _)); refine blk_put (cs := #[.bool (decide (a0 < 0)), .slice none 0 0]) ?_ 1 _ rfl; (with_reducible repeat (first | refine blk_drewN ?_ _ | refine blk_drew ?_ | refine blk_alloc ?_ _)); refine blk_put (cs := #[.bool false, .slice none 0 0]) ?_ 0 _ rfl; (with_reducible repeat (first | refine blk_drewN ?_ _ | refine blk_drew ?_ | refine blk_alloc ?_ _)); exact BK104.out) Tryd.underlying24 rfl (by kernel_rfl)) rfl ?_
            exact ⟨_, by first | rfl | (simp [errW_none, errW_some] <;> rfl) | (simp [*, errW_none, errW_some] <;> rfl), by (with_reducible repeat (first | apply Kd.R_alloc | apply Kd.R_drewN | apply Kd.R_drew)); exact Kd.R_mono (Kd.R_far (p := ⟨gb104, 1, none⟩) (Kd.R_far (p := ⟨gb104, 0, none⟩) (Kd.R_types HO_4.out BK104.out (by decide)) (fun _ hk => hk.2) (.bool (decide (a0 < 0)))) (fun _ hk => hk.2) (.slice Ao8 x4_2.length co8)) (fun _ hk => trivial), by repeat (first | (with_reducible first | exact HB.out | apply below_alloc | apply pw_below_drewN | apply below_drew1 | refine below_set ?_ GE104.out) | exact HB.out)⟩

/-! ### marginalialaw01_answers: function 12 -/
def marginalialaw01_answers.f : Option Bool := some true
theorem answers_of : num_Of.f 4 (-1000000007) = some (true, [7, 1]) := by decide +kernel
theorem answers_text : num_Text.f true [7, 1] = some ⟨#[45, 49, 48, 48, 48, 48, 48, 48, 48, 48, 55]⟩ := by
  have h1 : num_Sound.f true [7, 1] = some true := by decide +kernel
  have h2 : ([45] ++ Txt.ltx [7, 1] 2 : List UInt8) = [45, 49, 48, 48, 48, 48, 48, 48, 48, 48, 55] := by decide +kernel
  unfold num_Text.f
  rw [h1]
  simp only [Option.bind_some, if_true]
  rw [if_neg (by decide), if_neg (by decide)]
  show some (ByteArray.mk ([45] ++ Txt.ltx [7, 1] 2).toArray) = _
  rw [h2]
set_option maxHeartbeats 1000000 in
theorem marginalialaw01_answers.calls (r : Bool) (w : World) (h : marginalialaw01_answers.f = some r) :
    Calls Tryd.prog 12 #[] w fun e w' => e = .returned (.bool r) ∧ Below w.heap.size w w' := by
  obtain rfl := Option.some.inj h
  clear h
  go_enter Tryd.func12, Tryd.ntmps12
  go_wp2_with fail
  refine (num_Of.calls 4 (-1000000007) true [7, 1] _ answers_of).mono ?_
  rintro e w1 ⟨v, rfl, hR, hb⟩
  obtain ⟨A, c, rfl⟩ := Kd.R_slice hR
  have HR := Aside0.mk (Kd.R_reads' hR).2
  have HB := Aside0.mk hb
  clear hR hb
  go_wp2_with fail
  refine (num_Text.calls true A c [7, 1] _ _ HR.out.2 HR.out.1 (.inl (by decide)) answers_text).mono ?_
  rintro e w2 ⟨rfl, hb2⟩
  go_wp2
  go_ret
  exact ⟨rfl, HB.out.trans (hb2.mono HB.out.size)⟩

/-! ### marginalialaw01_light: function 13 -/
def marginalialaw01_light.f (a0_0 : Bool) (l0_1 : List Int) : Option (Bool) := some (decide ((l0_1.length : Int) ≤ 70))
set_option maxHeartbeats 8000000 in
set_option maxRecDepth 100000 in
theorem marginalialaw01_light.calls (a0_0 : Bool) (A0_1 : Option Addr) (c0_1 : Nat) (l0_1 : List Int) (r : Bool) (w : World) (hr0_1 : Kd.C (Kd.int .u32) w A0_1 l0_1.length l0_1) (hc0_1 : l0_1.length ≤ c0_1) (h : marginalialaw01_light.f a0_0 l0_1 = some r) :
    Calls Tryd.prog 13 #[.agg #[.bool a0_0, .slice A0_1 l0_1.length c0_1]] w fun e w' => e = .returned (.bool r) ∧ Below w.heap.size w w' := by
  have hu24 := Tryd.underlying24
  have HR0_1 := Aside0.mk hr0_1
  have HC0_1 := Aside0.mk hc0_1
  clear hr0_1 hc0_1
  have HB := Aside0.mk (Below.refl w.heap.size w)
  have H : (some (decide ((l0_1.length : Int) ≤ 70))) = some r := h
  clear h
  obtain rfl := Option.some.inj H
  go_enter Tryd.func13, Tryd.ntmps13
  go_wp2_with (first | ((with_reducible refine gate_dst (N := 1) rfl ?_); refine box_event ?hg (N := 1) ?hd (cs := #[.bool a0_0, .slice A0_1 l0_1.length c0_1]) (t := 24) ?hr ?_; (case hd => rfl); (case hg => rfl); (case hr => first | (go_simp; done) | (go_simp; rfl)); intro gb108 hg w2 hbox hb; have n0_ := Aside0.mk (below_step (by repeat (first | (with_reducible first | exact HB.out | apply below_alloc | apply pw_below_drewN | apply below_drew1) | exact HB.out)) hb); have n1_ := Aside0.mk (hbox); have n2_ := Aside0.mk ((by rw [hg]; exact (below_size (by repeat (first | (with_reducible first | exact HB.out | apply below_alloc | apply pw_below_drewN | apply below_drew1) | exact HB.out))) : w.heap.size ≤ gb108)); have n3_ := Aside0.mk ((by rw [hg]; exact (below_size (by repeat (first | (with_reducible first | exact HB.out | apply below_alloc | apply pw_below_drewN | apply below_drew1) | exact HB.out))) : w.heap.size ≤ gb108)); clear HB; have HB := n0_; have BK108 := n1_; have GW108 := n2_; have GE108 := n3_; clear n0_ n1_ n2_ n3_; clear hb hbox hg; have hcz3_0 : w2.cell? ⟨gb108, 0, none⟩ = some (.bool a0_0) := (blk_cell BK108.out 0).trans rfl; have hcz3_1 : w2.cell? ⟨gb108, 1, none⟩ = some (.slice A0_1 l0_1.length c0_1) := (blk_cell BK108.out 1).trans rfl; have hfz3_0 := blk_frozen BK108.out 0; have hfz3_1 := blk_frozen BK108.out 1))
  go_ret
  exact ⟨by first | rfl | (simp [errW_none, errW_some] <;> rfl) | (simp [*, errW_none, errW_some] <;> rfl), by repeat (first | (with_reducible first | exact HB.out | apply below_alloc | apply pw_below_drewN | apply below_drew1 | refine below_set ?_ GE108.out) | exact HB.out)⟩

/-! ### num_sound: function 38 -/
def num_sound.f (a0_0 : Bool) (l0_1 : List Int) (a1_0 : Bool) (l1_1 : List Int) : Option (Bool) := (num_Sound.f a0_0 l0_1).bind fun t111 => (if t111 = true then ((num_Sound.f a1_0 l1_1).bind fun t112 => (some t112)) else (some false))
set_option maxHeartbeats 8000000 in
set_option maxRecDepth 100000 in
theorem num_sound.calls (a0_0 : Bool) (A0_1 : Option Addr) (c0_1 : Nat) (l0_1 : List Int) (a1_0 : Bool) (A1_1 : Option Addr) (c1_1 : Nat) (l1_1 : List Int) (r : Bool) (w : World) (hr0_1 : Kd.C (Kd.int .u32) w A0_1 l0_1.length l0_1) (hc0_1 : l0_1.length ≤ c0_1) (hr1_1 : Kd.C (Kd.int .u32) w A1_1 l1_1.length l1_1) (hc1_1 : l1_1.length ≤ c1_1) (h : num_sound.f a0_0 l0_1 a1_0 l1_1 = some r) :
    Calls Tryd.prog 38 #[.agg #[.bool a0_0, .slice A0_1 l0_1.length c0_1], .agg #[.bool a1_0, .slice A1_1 l1_1.length c1_1]] w fun e w' => e = .returned (.bool r) ∧ Below w.heap.size w w' := by
  have hu24 := Tryd.underlying24
  have HR0_1 := Aside0.mk hr0_1
  have HC0_1 := Aside0.mk hc0_1
  clear hr0_1 hc0_1
  have HR1_1 := Aside0.mk hr1_1
  have HC1_1 := Aside0.mk hc1_1
  clear hr1_1 hc1_1
  have HB := Aside0.mk (Below.refl w.heap.size w)
  have H : ((num_Sound.f a0_0 l0_1).bind fun t111 => (if t111 = true then ((num_Sound.f a1_0 l1_1).bind fun t112 => (some t112)) else (some false))) = some r := h
  clear h
  replace H := Option.bind_eq_some_iff.mp H
  obtain ⟨t111, A30, H⟩ := H
  replace H : (if t111 = true then ((num_Sound.f a1_0 l1_1).bind fun t112 => (some t112)) else (some false)) = some r := H
  have A3 := Aside0.mk A30
  clear A30
  by_cases c4 : t111 = true
  · subst c4
    have H1 : ((num_Sound.f a1_0 l1_1).bind fun t112 => (some t112)) = some r := by rw [if_pos rfl] at H; exact H
    clear H
    have H := H1
    clear H1
    replace H := Option.bind_eq_some_iff.mp H
    obtain ⟨t112, A50, H⟩ := H
    replace H : (some t112) = some r := H
    have A5 := Aside0.mk A50
    clear A50
    obtain rfl := Option.some.inj H
    go_enter Tryd.func38, Tryd.ntmps38
    go_wp2_with (first | ((with_reducible refine gate_dst (N := 2) rfl ?_); refine box_event ?hg (N := 2) ?hd (cs := #[.bool a0_0, .slice A0_1 l0_1.length c0_1]) (t := 24) ?hr ?_; (case hd => rfl); (case hg => rfl); (case hr => first | (go_simp; done) | (go_simp; rfl)); intro gb109 hg w6 hbox hb; have n0_ := Aside0.mk (below_step (by repeat (first | (with_reducible first | exact HB.out | apply below_alloc | apply pw_below_drewN | apply below_drew1) | exact HB.out)) hb); have n1_ := Aside0.mk (hbox); have n2_ := Aside0.mk ((by rw [hg]; exact (below_size (by repeat (first | (with_reducible first | exact HB.out | apply below_alloc | apply pw_below_drewN | apply below_drew1) | exact HB.out))) : w.heap.size ≤ gb109)); have n3_ := Aside0.mk ((by rw [hg]; exact (below_size (by repeat (first | (with_reducible first | exact HB.out | apply below_alloc | apply pw_below_drewN | apply below_drew1) | exact HB.out))) : w.heap.size ≤ gb109)); clear HB; have HB := n0_; have BK109 := n1_; have GW109 := n2_; have GE109 := n3_; clear n0_ n1_ n2_ n3_; clear hb hbox hg) | ((with_reducible refine gate_dst (N := 3) rfl ?_); refine box_event ?hg (N := 3) ?hd (cs := #[.bool a1_0, .slice A1_1 l1_1.length c1_1]) (t := 24) ?hr ?_; (case hd => rfl); (case hg => rfl); (case hr => first | (go_simp; done) | (go_simp; rfl)); intro gb110 hg w7 hbox hb; have n0_ := Aside0.mk (blk_below (g := gb109) (o := .cells #[.bool a0_0, .slice A0_1 l0_1.length c0_1] 24 (0, 0)) (by (with_reducible repeat (first | refine blk_drewN ?_ _ | refine blk_drew ?_ | refine blk_alloc ?_ _)); exact BK109.out) hb); have n1_ := Aside0.mk (below_step (by repeat (first | (with_reducible first | exact HB.out | apply below_alloc | apply pw_below_drewN | apply below_drew1 | refine below_set ?_ GE109.out) | exact HB.out)) hb); have n2_ := Aside0.mk (hbox); have n3_ := Aside0.mk ((by rw [hg]; exact (below_size (by repeat (first | (with_reducible first | exact HB.out | apply below_alloc | apply pw_below_drewN | apply below_drew1 | refine below_set ?_ GE109.out) | exact HB.out))) : w.heap.size ≤ gb110)); have n4_ := Aside0.mk ((by rw [hg]; exact (below_size (by repeat (first | (with_reducible first | exact HB.out | apply below_alloc | apply pw_below_drewN | apply below_drew1 | refine below_set ?_ GE109.out) | exact HB.out))) : w.heap.size ≤ gb110)); have n5_ := Aside0.mk ((by rw [hg]; exact Nat.ne_of_lt (blk_lt (g := gb109) (o := .cells #[.bool a0_0, .slice A0_1 l0_1.length c0_1] 24 (0, 0)) (by (with_reducible repeat (first | refine blk_drewN ?_ _ | refine blk_drew ?_ | refine blk_alloc ?_ _)); exact BK109.out)) : gb109 ≠ gb110)); have n6_ := Aside0.mk ((by rw [hg]; exact Nat.ne_of_gt (blk_lt (g := gb109) (o := .cells #[.bool a0_0, .slice A0_1 l0_1.length c0_1] 24 (0, 0)) (by (with_reducible repeat (first | refine blk_drewN ?_ _ | refine blk_drew ?_ | refine blk_alloc ?_ _)); exact BK109.out)) : gb110 ≠ gb109)); clear BK109; clear HB; have BK109 := n0_; have HB := n1_; have BK110 := n2_; have GW110 := n3_; have GE110 := n4_; have NB109_110 := n5_; have NB110_109 := n6_; clear n0_ n1_ n2_ n3_ n4_ n5_ n6_; clear hb hbox hg; have hnb8 := NB109_110.out; have hnc8 := NB110_109.out; have hcz9_0 : w7.cell? ⟨gb109, 0, none⟩ = some (.bool a0_0) := (blk_cell BK109.out 0).trans rfl; have hcz9_1 : w7.cell? ⟨gb109, 1, none⟩ = some (.slice A0_1 l0_1.length c0_1) := (blk_cell BK109.out 1).trans rfl; have hfz9_0 := blk_frozen BK109.out 0; have hfz9_1 := blk_frozen BK109.out 1) | ((with_reducible refine gate_callee (f := 32) rfl ?_); refine goesL_ (some 6) rfl rfl Tryd.func32 (by kernel_rfl) rfl #[.agg #[.bool a0_0, .slice A0_1 l0_1.length c0_1]] rfl (by (try simp only [List.map_toArray, List.map_cons, List.map_nil]); first | done | rfl | (simp only [List.length_drop, List.length_take]; rfl)) ?_; (with_reducible refine (num_Sound.calls a0_0 _ _ l0_1 true _ ?side1 ?side2 A3.out).mono ?_); (case side1 => repeat (first | exact (Kd.C_below HR0_1.out HB.out) | (with_reducible refine Kd.C_alloc ?_ _) | (with_reducible refine Kd.C_drewN ?_ _) | (with_reducible refine Kd.C_drew ?_))); (case side2 => exact HC0_1.out); rintro e w10 ⟨rfl, hb⟩; refine ⟨_, rfl, ?_⟩; have n0_ := Aside0.mk (blk_below (g := gb109) (o := .cells #[.bool a0_0, .slice A0_1 l0_1.length c0_1] 24 (0, 0)) (by (with_reducible repeat (first | refine blk_drewN ?_ _ | refine blk_drew ?_ | refine blk_alloc ?_ _)); exact BK109.out) hb); have n1_ := Aside0.mk (blk_below (g := gb110) (o := .cells #[.bool a1_0, .slice A1_1 l1_1.length c1_1] 24 (0, 0)) (by (with_reducible repeat (first | refine blk_drewN ?_ _ | refine blk_drew ?_ | refine blk_alloc ?_ _)); exact BK110.out) hb); have n2_ := Aside0.mk (below_step (by repeat (first | (with_reducible first | exact HB.out | apply below_alloc | apply pw_below_drewN | apply below_drew1 | refine below_set ?_ GE109.out | refine below_set ?_ GE110.out) | exact HB.out)) hb); clear BK109; clear BK110; clear HB; have BK109 := n0_; have BK110 := n1_; have HB := n2_; clear n0_ n1_ n2_; (try clear hb); (try clear hb2); (try clear hk); (try clear hi); have hcz11_0 : w10.cell? ⟨gb110, 0, none⟩ = some (.bool a1_0) := (blk_cell BK110.out 0).trans rfl; have hcz11_1 : w10.cell? ⟨gb110, 1, none⟩ = some (.slice A1_1 l1_1.length c1_1) := (blk_cell BK110.out 1).trans rfl; have hfz11_0 := blk_frozen BK110.out 0; have hfz11_1 := blk_frozen BK110.out 1) | (go_at_call 32; (with_reducible refine (num_Sound.calls a1_0 _ _ l1_1 t112 _ ?side1 ?side2 A5.out).mono ?_); (case side1 => repeat (first | exact (Kd.C_below HR1_1.out HB.out) | (with_reducible refine Kd.C_alloc ?_ _) | (with_reducible refine Kd.C_drewN ?_ _) | (with_reducible refine Kd.C_drew ?_))); (case side2 => exact HC1_1.out); rintro e w12 ⟨rfl, hb⟩; have n0_ := Aside0.mk (blk_below (g := gb109) (o := .cells #[.bool a0_0, .slice A0_1 l0_1.length c0_1] 24 (0, 0)) (by (with_reducible repeat (first | refine blk_drewN ?_ _ | refine blk_drew ?_ | refine blk_alloc ?_ _)); exact BK109.out) hb); have n1_ := Aside0.mk (blk_below (g := gb110) (o := .cells #[.bool a1_0, .slice A1_1 l1_1.length c1_1] 24 (0, 0)) (by (with_reducible repeat (first | refine blk_drewN ?_ _ | refine blk_drew ?_ | refine blk_alloc ?_ _)); exact BK110.out) hb); have n2_ := Aside0.mk (below_step (by repeat (first | (with_reducible first | exact HB.out | apply below_alloc | apply pw_below_drewN | apply below_drew1 | refine below_set ?_ GE109.out | refine below_set ?_ GE110.out) | exact HB.out)) hb); clear BK109; clear BK110; clear HB; have BK109 := n0_; have BK110 := n1_; have HB := n2_; clear n0_ n1_ n2_; (try clear hb); (try clear hb2); (try clear hk); (try clear hi)))
    go_ret
    exact ⟨by first | rfl | (simp [errW_none, errW_some] <;> rfl) | (simp [*, errW_none, errW_some] <;> rfl), by repeat (first | (with_reducible first | exact HB.out | apply below_alloc | apply pw_below_drewN | apply below_drew1 | refine below_set ?_ GE109.out | refine below_set ?_ GE110.out) | exact HB.out)⟩
  · replace c4 := Bool.eq_false_iff.mpr c4
    subst c4
    have H1 : (some false) = some r := by rw [if_neg (show ¬ (false = true) by decide)] at H; exact H
    clear H
    have H := H1
    clear H1
    obtain rfl := Option.some.inj H
    go_enter Tryd.func38, Tryd.ntmps38
    go_wp2_with (first | ((with_reducible refine gate_dst (N := 2) rfl ?_); refine box_event ?hg (N := 2) ?hd (cs := #[.bool a0_0, .slice A0_1 l0_1.length c0_1]) (t := 24) ?hr ?_; (case hd => rfl); (case hg => rfl); (case hr => first | (go_simp; done) | (go_simp; rfl)); intro gb109 hg w13 hbox hb; have n0_ := Aside0.mk (below_step (by repeat (first | (with_reducible first | exact HB.out | apply below_alloc | apply pw_below_drewN | apply below_drew1) | exact HB.out)) hb); have n1_ := Aside0.mk (hbox); have n2_ := Aside0.mk ((by rw [hg]; exact (below_size (by repeat (first | (with_reducible first | exact HB.out | apply below_alloc | apply pw_below_drewN | apply below_drew1) | exact HB.out))) : w.heap.size ≤ gb109)); have n3_ := Aside0.mk ((by rw [hg]; exact (below_size (by repeat (first | (with_reducible first | exact HB.out | apply below_alloc | apply pw_below_drewN | apply below_drew1) | exact HB.out))) : w.heap.size ≤ gb109)); clear HB; have HB := n0_; have BK109 := n1_; have GW109 := n2_; have GE109 := n3_; clear n0_ n1_ n2_ n3_; clear hb hbox hg) | ((with_reducible refine gate_dst (N := 3) rfl ?_); refine box_event ?hg (N := 3) ?hd (cs := #[.bool a1_0, .slice A1_1 l1_1.length c1_1]) (t := 24) ?hr ?_; (case hd => rfl); (case hg => rfl); (case hr => first | (go_simp; done) | (go_simp; rfl)); intro gb110 hg w14 hbox hb; have n0_ := Aside0.mk (blk_below (g := gb109) (o := .cells #[.bool a0_0, .slice A0_1 l0_1.length c0_1] 24 (0, 0)) (by (with_reducible repeat (first | refine blk_drewN ?_ _ | refine blk_drew ?_ | refine blk_alloc ?_ _)); exact BK109.out) hb); have n1_ := Aside0.mk (below_step (by repeat (first | (with_reducible first | exact HB.out | apply below_alloc | apply pw_below_drewN | apply below_drew1 | refine below_set ?_ GE109.out) | exact HB.out)) hb); have n2_ := Aside0.mk (hbox); have n3_ := Aside0.mk ((by rw [hg]; exact (below_size (by repeat (first | (with_reducible first | exact HB.out | apply below_alloc | apply pw_below_drewN | apply below_drew1 | refine below_set ?_ GE109.out) | exact HB.out))) : w.heap.size ≤ gb110)); have n4_ := Aside0.mk ((by rw [hg]; exact (below_size (by repeat (first | (with_reducible first | exact HB.out | apply below_alloc | apply pw_below_drewN | apply below_drew1 | refine below_set ?_ GE109.out) | exact HB.out))) : w.heap.size ≤ gb110)); have n5_ := Aside0.mk ((by rw [hg]; exact Nat.ne_of_lt (blk_lt (g := gb109) (o := .cells #[.bool a0_0, .slice A0_1 l0_1.length c0_1] 24 (0, 0)) (by (with_reducible repeat (first | refine blk_drewN ?_ _ | refine blk_drew ?_ | refine blk_alloc ?_ _)); exact BK109.out)) : gb109 ≠ gb110)); have n6_ := Aside0.mk ((by rw [hg]; exact Nat.ne_of_gt (blk_lt (g := gb109) (o := .cells #[.bool a0_0, .slice A0_1 l0_1.length c0_1] 24 (0, 0)) (by (with_reducible repeat (first | refine blk_drewN ?_ _ | refine blk_drew ?_ | refine blk_alloc ?_ _)); exact BK109.out)) : gb110 ≠ gb109)); clear BK109; clear HB; have BK109 := n0_; have HB := n1_; have BK110 := n2_; have GW110 := n3_; have GE110 := n4_; have NB109_110 := n5_; have NB110_109 := n6_; clear n0_ n1_ n2_ n3_ n4_ n5_ n6_; clear hb hbox hg; have hnb15 := NB109_110.out; have hnc15 := NB110_109.out; have hcz16_0 : w14.cell? ⟨gb109, 0, none⟩ = some (.bool a0_0) := (blk_cell BK109.out 0).trans rfl; have hcz16_1 : w14.cell? ⟨gb109, 1, none⟩ = some (.slice A0_1 l0_1.length c0_1) := (blk_cell BK109.out 1).trans rfl; have hfz16_0 := blk_frozen BK109.out 0; have hfz16_1 := blk_frozen BK109.out 1) | ((with_reducible refine gate_callee (f := 32) rfl ?_); refine goesL_ (some 6) rfl rfl Tryd.func32 (by kernel_rfl) rfl #[.agg #[.bool a0_0, .slice A0_1 l0_1.length c0_1]] rfl (by (try simp only [List.map_toArray, List.map_cons, List.map_nil]); first | done | rfl | (simp only [List.length_drop, List.length_take]; rfl)) ?_; (with_reducible refine (num_Sound.calls a0_0 _ _ l0_1 false _ ?side1 ?side2 A3.out).mono ?_); (case side1 => repeat (first | exact (Kd.C_below HR0_1.out HB.out) | (with_reducible refine Kd.C_alloc ?_ _) | (with_reducible refine Kd.C_drewN ?_ _) | (with_reducible refine Kd.C_drew ?_))); (case side2 => exact HC0_1.out); rintro e w17 ⟨rfl, hb⟩; refine ⟨_, rfl, ?_⟩; have n0_ := Aside0.mk (blk_below (g := gb109) (o := .cells #[.bool a0_0, .slice A0_1 l0_1.length c0_1] 24 (0, 0)) (by (with_reducible repeat (first | refine blk_drewN ?_ _ | refine blk_drew ?_ | refine blk_alloc ?_ _)); exact BK109.out) hb); have n1_ := Aside0.mk (blk_below (g := gb110) (o := .cells #[.bool a1_0, .slice A1_1 l1_1.length c1_1] 24 (0, 0)) (by (with_reducible repeat (first | refine blk_drewN ?_ _ | refine blk_drew ?_ | refine blk_alloc ?_ _)); exact BK110.out) hb); have n2_ := Aside0.mk (below_step (by repeat (first | (with_reducible first | exact HB.out | apply below_alloc | apply pw_below_drewN | apply below_drew1 | refine below_set ?_ GE109.out | refine below_set ?_ GE110.out) | exact HB.out)) hb); clear BK109; clear BK110; clear HB; have BK109 := n0_; have BK110 := n1_; have HB := n2_; clear n0_ n1_ n2_; (try clear hb); (try clear hb2); (try clear hk); (try clear hi)))
    go_ret
    exact ⟨by first | rfl | (simp [errW_none, errW_some] <;> rfl) | (simp [*, errW_none, errW_some] <;> rfl), by repeat (first | (with_reducible first | exact HB.out | apply below_alloc | apply pw_below_drewN | apply below_drew1 | refine below_set ?_ GE109.out | refine below_set ?_ GE110.out) | exact HB.out)⟩

/-! ### num_cut: function 48 -/
def num_cut.l0 : Nat → List Int → Option (List Int)
  | 0, _ => none
  | k + 1, x0 => if (x0.length : Int) > 0 then (if 0 ≤ (wrap64 ((x0.length : Int) - 1)) then (if (wrap64 ((x0.length : Int) - 1)) < (x0.length : Int) then (if (rd x0 (wrap64 ((x0.length : Int) - 1))) = 0 then (if (wrap64 ((x0.length : Int) - 1)) ≤ (x0.length : Int) then (num_cut.l0 k (x0.take ((wrap64 ((x0.length : Int) - 1)) : Int).toNat)) else (none)) else (some x0)) else (none)) else (none)) else (some x0)
def num_cut.f (k : Nat) (l0 : List Int) : Option (List Int) := num_cut.l0 k l0
theorem num_cut.mono_l : ∀ k, (∀ y0, LeO (num_cut.l0 k y0) (num_cut.l0 (k + 1) y0))
  | 0 => fun _ r h => by simp [num_cut.l0] at h
  | k + 1 => by
    have ih0 := num_cut.mono_l k
    · intro y0
      unfold num_cut.l0
      repeat' first
      | (with_reducible exact ih0 _)
      | (with_reducible exact LeO.refl _)
      | (with_reducible exact LeO.none _)
      | (with_reducible refine LeO.ite ?_ ?_)
      | (with_reducible refine LeO.bind ?_ (fun _ => ?_))
      | exact ih0 _
      | exact LeO.none _
      | refine LeO.ite ?_ ?_
      | refine LeO.bind ?_ (fun _ => ?_)
theorem num_cut.mono : ∀ a0 k, LeO (num_cut.f k a0) (num_cut.f (k + 1) a0) := by
  intro a0 k
  have ih0 := num_cut.mono_l k
  unfold num_cut.f
  repeat' first
      | (with_reducible exact ih0 _)
      | (with_reducible exact LeO.refl _)
      | (with_reducible exact LeO.none _)
      | (with_reducible refine LeO.ite ?_ ?_)
      | (with_reducible refine LeO.bind ?_ (fun _ => ?_))
      | exact ih0 _
      | exact LeO.none _
      | refine LeO.ite ?_ ?_
      | refine LeO.bind ?_ (fun _ => ?_)
set_option maxHeartbeats 8000000 in
set_option maxRecDepth 100000 in
theorem num_cut.calls (k : Nat) (P0_ : Nat → Prop) (A0 : Option Addr) (c0 : Nat) (l0 : List Int) (r : List Int) (w : World) (hs0 : Kd.V (Kd.int .u32) 48 w w.heap.size (fun k_ => P0_ k_) (.slice A0 l0.length c0) l0) (h : num_cut.f k l0 = some r) :
    Calls Tryd.prog 48 #[.slice A0 l0.length c0] w fun e w' => ∃ v0_ : Value, e = .returned (v0_) ∧ Kd.V (Kd.int .u32) 48 w' w.heap.size (fun k_ => (P0_ k_ ∨ w.heap.size ≤ k_)) v0_ r ∧ Below w.heap.size w w' := by
  have HO0 := Aside0.mk (show Kd.V (Kd.int .u32) 48 w w.heap.size (fun k_ => (P0_ k_ ∨ w.heap.size ≤ k_)) (.slice A0 l0.length c0) l0 from Kd.V_mono hs0 (fun k_ hk => .inl hk))
  have HB := Aside0.mk (Below.refl w.heap.size w)
  have H : (num_cut.l0 k l0) = some r := h
  clear h
  have H' := Aside0.mk H
  clear H
  go_enter Tryd.func48, Tryd.ntmps48
  go_wp2
  go_loopg [0] k (fun kq v0 w' => ∃ (x0_1 : List Int), Aside0 (num_cut.l0 kq x0_1 = some r) ∧ Aside0 (kq ≤ k) ∧ Aside0 (Kd.V (Kd.int .u32) 48 w' w.heap.size (fun k_ => (P0_ k_ ∨ w.heap.size ≤ k_)) v0 x0_1) ∧ Aside0 (Below w.heap.size w w'))
  case atStart => exact ⟨(l0), H', ⟨Nat.le_refl _⟩, ⟨by (with_reducible repeat (first | apply Kd.V_alloc | apply Kd.V_drewN | apply Kd.V_drew)); exact HO0.out⟩, ⟨by repeat (first | (with_reducible first | exact HB.out | apply below_alloc | apply pw_below_drewN | apply below_drew1) | exact HB.out)⟩⟩
  case round =>
    clear H'
    obtain ⟨x0_1, HA, HK1, HO_0, HB⟩ := hrel
    cases gk with
    | zero => exact absurd HA.out (by simp [num_cut.l0])
    | succ k1 =>
      have H := HA.out
      clear HA
      simp only [num_cut.l0] at H
      by_cases c2 : (x0_1.length : Int) > 0
      · rw [if_pos c2] at H
        have c2b0 : decide (0 < (x0_1.length : Int)) = true := decide_eq_true c2
        have c2b1 : decide (0 < x0_1.length) = true := decide_eq_true (by omega)
        clear c2
        obtain ⟨ji3, hji3⟩ : ∃ j_ : Int, (wrap64 ((x0_1.length : Int) - 1)) = j_ := ⟨_, rfl⟩
        replace H : (if 0 ≤ (ji3) then (if (ji3) < (x0_1.length : Int) then (if (rd x0_1 (ji3)) = 0 then (if (ji3) ≤ (x0_1.length : Int) then (num_cut.l0 k1 (x0_1.take ((ji3) : Int).toNat)) else (none)) else (some x0_1)) else (none)) else (none)) = some r := by first | (rw [hji3] at H; exact H) | (simp only [hji3] at H ⊢; exact H)
        have hji3w : (IntKind.i64.wrap ((x0_1.length : Int) - 1)) = ji3 := (i64_w _).trans hji3
        by_cases c4 : 0 ≤ (ji3)
        · rw [if_pos c4] at H
          have c4b0 : decide (0 ≤ (ji3)) = true := decide_eq_true c4
          clear c4
          by_cases c5 : (ji3) < (x0_1.length : Int)
          · rw [if_pos c5] at H
            have c5b0 : decide ((ji3) < (x0_1.length : Int)) = true := decide_eq_true c5
            clear c5
            by_cases c6 : (rd x0_1 (ji3)) = 0
            · rw [if_pos c6] at H
              have c6b0 : ((rd x0_1 (ji3)) == 0) = true := beq_iff_eq.mpr c6
              have c6b1 : ((rd x0_1 (ji3)) != 0) = false := bne_eq_false_iff_eq.mpr c6
              clear c6
              have c7b0 := eq_true (of_decide_eq_true (by first | (with_reducible assumption) | assumption) : 0 ≤ (ji3))
              by_cases c8 : (ji3) ≤ (x0_1.length : Int)
              · rw [if_pos c8] at H
                have c8b0 := eq_true c8
                have c8b1 : decide ((ji3) ≤ (x0_1.length : Int)) = true := decide_eq_true c8
                clear c8
                obtain ⟨y114, hy114⟩ : ∃ y_ : List Int, y_ = (x0_1.take ((ji3) : Int).toNat) := ⟨_, rfl⟩
                replace H : (num_cut.l0 k1 y114) = some r := by first | (rw [hy114]; with_reducible exact H) | (have H2_ := (Option.bind_some _ _).symm.trans H; rw [hy114]; with_reducible exact H2_) | (have H2_ := (Option.bind_some _ _).symm.trans H; with_reducible exact H2_) | with_reducible exact H | (rw [hy114]; exact H) | exact H
                have Ny114 := Aside0.mk hy114
                clear hy114
                have H' := Aside0.mk H
                clear H
                obtain ⟨Ao9, co9, eo9⟩ := Kd.V_slice HO_0.out
                subst eo9
                have p113 : 0 ≤ ((ji3) : Int) := of_decide_eq_true (by first | (with_reducible assumption) | assumption)
                have q113 : (ji3) < (x0_1.length : Int) := of_decide_eq_true (by first | (with_reducible assumption) | assumption)
                obtain ⟨ad113, e113, hx113_0⟩ := Kd.at_int (Kd.V_reads' HO_0.out).2.2 (ji3) p113 q113
                cases e113
                replace p113 := eq_true p113
                replace q113 := eq_true q113
                have q10 : ((ji3) : Int) ≤ ((x0_1.length : Int) : Int) := of_decide_eq_true (by first | (with_reducible assumption) | assumption)
                obtain ⟨i010, hi010, _, hsz10, _⟩ := info_parts info48
                have hroom10 : x0_1.length ≤ co9 := (Kd.V_reads' HO_0.out).2.1
                have hC10 : Kd.F (Kd.int .u32) _ _ (some ad113) x0_1.length x0_1 := (Kd.V_at (base := w.heap.size) HO_0.out).2.2
                have hcut10 := cut_to (P := Tryd.prog) 22 48 .i64 Tryd.underlying22 hi010 (some ad113) x0_1.length co9 (ji3) (of_decide_eq_true (by first | (with_reducible assumption) | assumption)) q10 hroom10
                have hr10 := Kd.F_take (m := ((ji3) : Int).toNat) hC10 (by omega)
                have hy10 : y114.length = ((ji3) : Int).toNat := (by rw [Ny114.out, List.length_take]; omega)
                rw [← Ny114.out] at hr10
                rw [← hy10] at hcut10
                have HO118 := Aside0.mk (show Kd.V (Kd.int .u32) 48 _ w.heap.size _ (.slice (some ad113) y114.length co9) y114 from Kd.V_mk (by omega) hr10)
                have HC118 := Aside0.mk (show y114.length ≤ co9 from by omega)
                clear hr10 hC10 hroom10 hi010 hsz10
                have KY10 := Aside0.mk hy10
                clear hy10
                replace q10 := eq_true q10
                go_wp2
                go_roundg k1
                case measure => have := HK1.out; omega
                case rel => exact ⟨(y114), H', ⟨by have := HK1.out; omega⟩, ⟨by (with_reducible repeat (first | apply Kd.V_alloc | apply Kd.V_drewN | apply Kd.V_drew)); exact HO118.out⟩, ⟨by repeat (first | (with_reducible first | exact HB.out | apply below_alloc | apply pw_below_drewN | apply below_drew1) | exact HB.out)⟩⟩
              · rw [if_neg c8] at H
                exact absurd H (by simp)
            · rw [if_neg c6] at H
              have c6b0 : ((rd x0_1 (ji3)) == 0) = false := beq_eq_false_iff_ne.mpr c6
              have c6b1 : ((rd x0_1 (ji3)) != 0) = true := bne_iff_ne.mpr c6
              obtain rfl := Option.some.inj H
              obtain ⟨Ao11, co11, eo11⟩ := Kd.V_slice HO_0.out
              subst eo11
              have p113 : 0 ≤ ((ji3) : Int) := of_decide_eq_true (by first | (with_reducible assumption) | assumption)
              have q113 : (ji3) < (x0_1.length : Int) := of_decide_eq_true (by first | (with_reducible assumption) | assumption)
              obtain ⟨ad113, e113, hx113_0⟩ := Kd.at_int (Kd.V_reads' HO_0.out).2.2 (ji3) p113 q113
              cases e113
              replace p113 := eq_true p113
              replace q113 := eq_true q113
              go_wp2
              go_ret
              exact ⟨_, by first | rfl | (simp [errW_none, errW_some] <;> rfl) | (simp only [← hji3]; first | rfl | (simp [errW_none, errW_some] <;> rfl)) | (simp [*, errW_none, errW_some] <;> rfl), by (with_reducible repeat (first | apply Kd.V_alloc | apply Kd.V_drewN | apply Kd.V_drew)); exact HO_0.out, by repeat (first | (with_reducible first | exact HB.out | apply below_alloc | apply pw_below_drewN | apply below_drew1) | exact HB.out)⟩
          · rw [if_neg c5] at H
            exact absurd H (by simp)
        · rw [if_neg c4] at H
          exact absurd H (by simp)
      · rw [if_neg c2] at H
        have c2b0 : decide (0 < (x0_1.length : Int)) = false := decide_eq_false c2
        have c2b1 : decide (0 < x0_1.length) = false := decide_eq_false (by omega)
        clear c2
        obtain rfl := Option.some.inj H
        obtain ⟨Ao12, co12, eo12⟩ := Kd.V_slice HO_0.out
        subst eo12
        go_wp2
        go_ret
        exact ⟨_, by first | rfl | (simp [errW_none, errW_some] <;> rfl) | (simp [*, errW_none, errW_some] <;> rfl), by (with_reducible repeat (first | apply Kd.V_alloc | apply Kd.V_drewN | apply Kd.V_drew)); exact HO_0.out, by repeat (first | (with_reducible first | exact HB.out | apply below_alloc | apply pw_below_drewN | apply below_drew1) | exact HB.out)⟩

end Go.Proofs.YtflmioakfboanaaDoor.PNumTimes
