-- By a program of this work (wip/tools/myprint.py over the kit's printer), with contracts of its own beside.
import Derived.Test.YtflmioakfboanaaDoorPNumTimesx0
import Derived.Test.YtflmioakfboanaaDoorPNumTimesx2
import Derived.Test.YtflmioakfboanaaDoorPNumTimesx3
namespace Go.Proofs.YtflmioakfboanaaDoor.PNumTimes
open Go.RowKit Go.Proofs.YtflmioakfboanaaDoorW.PrintWords Go.Proofs.YtflmioakfboanaaDoorW.PrintLast Go.Proofs.YtflmioakfboanaaDoorW.PrintMore
attribute [local go_sem] max2_int min2_int max_two min_two max_three min_three max_four min_four   -- for this text's walks alone
set_option linter.unusedVariables false
set_option linter.unusedSimpArgs false

/-! ### marginaliaref01_Mul: function 16 -/
mutual
def marginaliaref01_Mul.j0 : Nat → Bool → Bool → List Int → Bool → List Int → Option (Bool × List Int × Int)
  | 0, _, _, _, _, _ => none
  | k + 1, x21, x182000, x182001, x183000, x183001 => if x21 = true then (some (false, ([] : List Int), 2)) else ((marginaliaref01_Digits.f k x182000 x182001).bind fun t186 => ((marginaliaref01_Digits.f k x183000 x183001).bind fun t189 => (if 0 ≤ (wrap64 ((wrap64 ((t186.length : Int) + (t189.length : Int))) + 1)) then (if (wrap64 ((wrap64 ((t186.length : Int) + (t189.length : Int))) + 1) : Int).toNat ≤ 35184372088832 then (marginaliaref01_Mul.l0 k t186 t189 (List.replicate (wrap64 ((wrap64 ((t186.length : Int) + (t189.length : Int))) + 1) : Int).toNat 0) 0 x182000 x182001 x183000 x183001) else (none)) else (none))))
def marginaliaref01_Mul.l0 : Nat → List Int → List Int → List Int → Int → Bool → List Int → Bool → List Int → Option (Bool × List Int × Int)
  | 0, _, _, _, _, _, _, _, _ => none
  | k + 1, x6, x7, x8, x9, x182000, x182001, x183000, x183001 => if x9 < (x6.length : Int) then (marginaliaref01_Mul.l1 k x6 x7 x8 x9 0 x182000 x182001 x183000 x183001) else (marginaliaref01_Mul.l2 k x8 ([] : List Int) 0 0 x182000 x182001 x183000 x183001)
def marginaliaref01_Mul.l1 : Nat → List Int → List Int → List Int → Int → Int → Bool → List Int → Bool → List Int → Option (Bool × List Int × Int)
  | 0, _, _, _, _, _, _, _, _, _ => none
  | k + 1, x6, x7, x8, x9, x10, x182000, x182001, x183000, x183001 => if x10 < (x7.length : Int) then (if 0 ≤ (wrap64 (x9 + x10)) then (if (wrap64 (x9 + x10)) < (x8.length : Int) then (if 0 ≤ x9 then (if x9 < (x6.length : Int) then (if 0 ≤ x10 then (marginaliaref01_Mul.l1 k x6 x7 (x8.set ((wrap64 (x9 + x10)) : Int).toNat (wrap64 ((rd x8 (wrap64 (x9 + x10))) + (wrap64 ((wrap64 (rd x6 x9)) * (wrap64 (rd x7 x10))))))) x9 (wrap64 (x10 + 1)) x182000 x182001 x183000 x183001) else (none)) else (none)) else (none)) else (none)) else (none)) else (marginaliaref01_Mul.l0 k x6 x7 x8 (wrap64 (x9 + 1)) x182000 x182001 x183000 x183001)
def marginaliaref01_Mul.l2 : Nat → List Int → List Int → Int → Int → Bool → List Int → Bool → List Int → Option (Bool × List Int × Int)
  | 0, _, _, _, _, _, _, _, _ => none
  | k + 1, x8, x11, x12, x13, x182000, x182001, x183000, x183001 => if x13 < (x8.length : Int) then (if 0 ≤ x13 then (if x11.length < 140737488355328 then (marginaliaref01_Mul.l2 k x8 (x11 ++ [(Int.tmod (wrap64 (x12 + (rd x8 x13))) 10) % 256]) (wrap64 (Int.tdiv (wrap64 (x12 + (rd x8 x13))) 10)) (wrap64 (x13 + 1)) x182000 x182001 x183000 x183001) else (none)) else (none)) else ((marginaliaref01_give.f k (x182000 != x183000) x11).bind fun bt203 => (some (bt203.1, bt203.2.1, bt203.2.2)))
end
def marginaliaref01_Mul.f (k : Nat) (a0_0 : Bool) (l0_1 : List Int) (a1_0 : Bool) (l1_1 : List Int) : Option (Bool × List Int × Int) := (marginaliaref01_Sound.f k a0_0 l0_1).bind fun t184 => (if t184 = true then ((marginaliaref01_Sound.f k a1_0 l1_1).bind fun t185 => (marginaliaref01_Mul.j0 k (!t185) a0_0 l0_1 a1_0 l1_1)) else (marginaliaref01_Mul.j0 k true a0_0 l0_1 a1_0 l1_1))
theorem marginaliaref01_Mul.mono_l : ∀ k, (∀ y0 y1 y2 y3 y4, LeO (marginaliaref01_Mul.j0 k y0 y1 y2 y3 y4) (marginaliaref01_Mul.j0 (k + 1) y0 y1 y2 y3 y4)) ∧ (∀ y0 y1 y2 y3 y4 y5 y6 y7, LeO (marginaliaref01_Mul.l0 k y0 y1 y2 y3 y4 y5 y6 y7) (marginaliaref01_Mul.l0 (k + 1) y0 y1 y2 y3 y4 y5 y6 y7)) ∧ (∀ y0 y1 y2 y3 y4 y5 y6 y7 y8, LeO (marginaliaref01_Mul.l1 k y0 y1 y2 y3 y4 y5 y6 y7 y8) (marginaliaref01_Mul.l1 (k + 1) y0 y1 y2 y3 y4 y5 y6 y7 y8)) ∧ (∀ y0 y1 y2 y3 y4 y5 y6 y7, LeO (marginaliaref01_Mul.l2 k y0 y1 y2 y3 y4 y5 y6 y7) (marginaliaref01_Mul.l2 (k + 1) y0 y1 y2 y3 y4 y5 y6 y7))
  | 0 => ⟨fun _ _ _ _ _ r h => by simp [marginaliaref01_Mul.j0] at h, fun _ _ _ _ _ _ _ _ r h => by simp [marginaliaref01_Mul.l0] at h, fun _ _ _ _ _ _ _ _ _ r h => by simp [marginaliaref01_Mul.l1] at h, fun _ _ _ _ _ _ _ _ r h => by simp [marginaliaref01_Mul.l2] at h⟩
  | k + 1 => by
    obtain ⟨ih0, ih1, ih2, ih3⟩ := marginaliaref01_Mul.mono_l k
    refine ⟨?_, ?_, ?_, ?_⟩
    · intro y0 y1 y2 y3 y4
      unfold marginaliaref01_Mul.j0
      repeat' first
      | (with_reducible exact ih0 _ _ _ _ _)
      | (with_reducible exact ih1 _ _ _ _ _ _ _ _)
      | (with_reducible exact ih2 _ _ _ _ _ _ _ _ _)
      | (with_reducible exact ih3 _ _ _ _ _ _ _ _)
      | (with_reducible exact marginaliaref01_Digits.mono _ _ _)
      | (with_reducible exact marginaliaref01_Sound.mono _ _ _)
      | (with_reducible exact marginaliaref01_give.mono _ _ _)
      | (with_reducible exact LeO.refl _)
      | (with_reducible exact LeO.none _)
      | (with_reducible refine LeO.ite ?_ ?_)
      | (with_reducible refine LeO.bind ?_ (fun _ => ?_))
      | exact ih0 _ _ _ _ _
      | exact ih1 _ _ _ _ _ _ _ _
      | exact ih2 _ _ _ _ _ _ _ _ _
      | exact ih3 _ _ _ _ _ _ _ _
      | exact marginaliaref01_Digits.mono _ _ _
      | exact marginaliaref01_Sound.mono _ _ _
      | exact marginaliaref01_give.mono _ _ _
      | exact LeO.none _
      | refine LeO.ite ?_ ?_
      | refine LeO.bind ?_ (fun _ => ?_)
    · intro y0 y1 y2 y3 y4 y5 y6 y7
      unfold marginaliaref01_Mul.l0
      repeat' first
      | (with_reducible exact ih0 _ _ _ _ _)
      | (with_reducible exact ih1 _ _ _ _ _ _ _ _)
      | (with_reducible exact ih2 _ _ _ _ _ _ _ _ _)
      | (with_reducible exact ih3 _ _ _ _ _ _ _ _)
      | (with_reducible exact marginaliaref01_Digits.mono _ _ _)
      | (with_reducible exact marginaliaref01_Sound.mono _ _ _)
      | (with_reducible exact marginaliaref01_give.mono _ _ _)
      | (with_reducible exact LeO.refl _)
      | (with_reducible exact LeO.none _)
      | (with_reducible refine LeO.ite ?_ ?_)
      | (with_reducible refine LeO.bind ?_ (fun _ => ?_))
      | exact ih0 _ _ _ _ _
      | exact ih1 _ _ _ _ _ _ _ _
      | exact ih2 _ _ _ _ _ _ _ _ _
      | exact ih3 _ _ _ _ _ _ _ _
      | exact marginaliaref01_Digits.mono _ _ _
      | exact marginaliaref01_Sound.mono _ _ _
      | exact marginaliaref01_give.mono _ _ _
      | exact LeO.none _
      | refine LeO.ite ?_ ?_
      | refine LeO.bind ?_ (fun _ => ?_)
    · intro y0 y1 y2 y3 y4 y5 y6 y7 y8
      unfold marginaliaref01_Mul.l1
      repeat' first
      | (with_reducible exact ih0 _ _ _ _ _)
      | (with_reducible exact ih1 _ _ _ _ _ _ _ _)
      | (with_reducible exact ih2 _ _ _ _ _ _ _ _ _)
      | (with_reducible exact ih3 _ _ _ _ _ _ _ _)
      | (with_reducible exact marginaliaref01_Digits.mono _ _ _)
      | (with_reducible exact marginaliaref01_Sound.mono _ _ _)
      | (with_reducible exact marginaliaref01_give.mono _ _ _)
      | (with_reducible exact LeO.refl _)
      | (with_reducible exact LeO.none _)
      | (with_reducible refine LeO.ite ?_ ?_)
      | (with_reducible refine LeO.bind ?_ (fun _ => ?_))
      | exact ih0 _ _ _ _ _
      | exact ih1 _ _ _ _ _ _ _ _
      | exact ih2 _ _ _ _ _ _ _ _ _
      | exact ih3 _ _ _ _ _ _ _ _
      | exact marginaliaref01_Digits.mono _ _ _
      | exact marginaliaref01_Sound.mono _ _ _
      | exact marginaliaref01_give.mono _ _ _
      | exact LeO.none _
      | refine LeO.ite ?_ ?_
      | refine LeO.bind ?_ (fun _ => ?_)
    · intro y0 y1 y2 y3 y4 y5 y6 y7
      unfold marginaliaref01_Mul.l2
      repeat' first
      | (with_reducible exact ih0 _ _ _ _ _)
      | (with_reducible exact ih1 _ _ _ _ _ _ _ _)
      | (with_reducible exact ih2 _ _ _ _ _ _ _ _ _)
      | (with_reducible exact ih3 _ _ _ _ _ _ _ _)
      | (with_reducible exact marginaliaref01_Digits.mono _ _ _)
      | (with_reducible exact marginaliaref01_Sound.mono _ _ _)
      | (with_reducible exact marginaliaref01_give.mono _ _ _)
      | (with_reducible exact LeO.refl _)
      | (with_reducible exact LeO.none _)
      | (with_reducible refine LeO.ite ?_ ?_)
      | (with_reducible refine LeO.bind ?_ (fun _ => ?_))
      | exact ih0 _ _ _ _ _
      | exact ih1 _ _ _ _ _ _ _ _
      | exact ih2 _ _ _ _ _ _ _ _ _
      | exact ih3 _ _ _ _ _ _ _ _
      | exact marginaliaref01_Digits.mono _ _ _
      | exact marginaliaref01_Sound.mono _ _ _
      | exact marginaliaref01_give.mono _ _ _
      | exact LeO.none _
      | refine LeO.ite ?_ ?_
      | refine LeO.bind ?_ (fun _ => ?_)
theorem marginaliaref01_Mul.mono : ∀ a0 a1 a2 a3 k, LeO (marginaliaref01_Mul.f k a0 a1 a2 a3) (marginaliaref01_Mul.f (k + 1) a0 a1 a2 a3) := by
  intro a0 a1 a2 a3 k
  obtain ⟨ih0, ih1, ih2, ih3⟩ := marginaliaref01_Mul.mono_l k
  unfold marginaliaref01_Mul.f
  repeat' first
      | (with_reducible exact ih0 _ _ _ _ _)
      | (with_reducible exact ih1 _ _ _ _ _ _ _ _)
      | (with_reducible exact ih2 _ _ _ _ _ _ _ _ _)
      | (with_reducible exact ih3 _ _ _ _ _ _ _ _)
      | (with_reducible exact marginaliaref01_Digits.mono _ _ _)
      | (with_reducible exact marginaliaref01_Sound.mono _ _ _)
      | (with_reducible exact marginaliaref01_give.mono _ _ _)
      | (with_reducible exact LeO.refl _)
      | (with_reducible exact LeO.none _)
      | (with_reducible refine LeO.ite ?_ ?_)
      | (with_reducible refine LeO.bind ?_ (fun _ => ?_))
      | exact ih0 _ _ _ _ _
      | exact ih1 _ _ _ _ _ _ _ _
      | exact ih2 _ _ _ _ _ _ _ _ _
      | exact ih3 _ _ _ _ _ _ _ _
      | exact marginaliaref01_Digits.mono _ _ _
      | exact marginaliaref01_Sound.mono _ _ _
      | exact marginaliaref01_give.mono _ _ _
      | exact LeO.none _
      | refine LeO.ite ?_ ?_
      | refine LeO.bind ?_ (fun _ => ?_)
def marginaliaref01_Mul.T12 : Bool × List (List Nat × List Nat) := (true, [([], []), ([], []), ([], []), ([1, 2], [1, 2]), ([], []), ([], []), ([], []), ([5, 6], [5, 6]), ([4, 7], [4, 7]), ([8], [8]), ([], []), ([], []), ([10, 11], [10, 11]), ([12], [12]), ([13], [13]), ([], []), ([], []), ([15, 16], [15, 16]), ([17], [17]), ([18], [18]), ([14, 19], [14, 19]), ([9, 20], [9, 20]), ([0, 3, 0, 1, 2, 3, 4, 5, 6, 7, 8, 9, 10, 11, 12, 13, 14, 15, 16, 17, 18, 19, 20, 21], [0, 3]), ([22, 21, 0, 1, 2, 3, 4, 5, 6, 7, 8, 9, 10, 11, 12, 13, 14, 15, 16, 17, 18, 19, 20, 21], [21, 22])])
def marginaliaref01_Mul.B12 : List Nat := [0, 0, 0, 6, 0, 0, 0, 96, 240, 496, 0, 0, 3072, 7168, 15360, 0, 0, 98304, 229376, 491520, 1047552, 2097136, 4194303, 8388607]
theorem marginaliaref01_Mul.tab12 : rtab .any (opsOf Tryd.f16 12) = marginaliaref01_Mul.T12 := by kernel_rfl
theorem marginaliaref01_Mul.bits12 : waitsOk marginaliaref01_Mul.T12.2 marginaliaref01_Mul.B12 = true := by kernel_rfl
set_option maxHeartbeats 8000000 in
set_option maxRecDepth 100000 in
theorem marginaliaref01_Mul.calls (k : Nat) (a0_0 : Bool) (A0_1 : Option Addr) (c0_1 : Nat) (l0_1 : List Int) (a1_0 : Bool) (A1_1 : Option Addr) (c1_1 : Nat) (l1_1 : List Int) (r1 : Bool) (r2 : List Int) (r3 : Int) (w : World) (hr0_1 : Kd.C (Kd.int .u32) w A0_1 l0_1.length l0_1) (hc0_1 : l0_1.length ≤ c0_1) (hr1_1 : Kd.C (Kd.int .u32) w A1_1 l1_1.length l1_1) (hc1_1 : l1_1.length ≤ c1_1) (h : marginaliaref01_Mul.f k a0_0 l0_1 a1_0 l1_1 = some (r1, r2, r3)) :
    Calls Tryd.prog 16 #[.agg #[.bool a0_0, .slice A0_1 l0_1.length c0_1], .agg #[.bool a1_0, .slice A1_1 l1_1.length c1_1]] w fun e w' => ∃ v1_ : Value, e = .returned (.tuple #[.agg #[.bool r1, v1_], .int .i64 r3]) ∧ Kd.R (Kd.int .u32) 48 w' w.heap.size (fun _ => True) v1_ r2 ∧ Below w.heap.size w w' := by
  have hu24 := Tryd.underlying24
  have HR0_1 := Aside0.mk hr0_1
  have HC0_1 := Aside0.mk hc0_1
  clear hr0_1 hc0_1
  have HR1_1 := Aside0.mk hr1_1
  have HC1_1 := Aside0.mk hc1_1
  clear hr1_1 hc1_1
  have HB := Aside0.mk (Below.refl w.heap.size w)
  have H : ((marginaliaref01_Sound.f k a0_0 l0_1).bind fun t184 => (if t184 = true then ((marginaliaref01_Sound.f k a1_0 l1_1).bind fun t185 => (marginaliaref01_Mul.j0 k (!t185) a0_0 l0_1 a1_0 l1_1)) else (marginaliaref01_Mul.j0 k true a0_0 l0_1 a1_0 l1_1))) = some (r1, r2, r3) := h
  clear h
  have HC3 := Aside0.mk H
  clear H
  go_enter Tryd.func16, Tryd.ntmps16
  go_upto_region 1 with (first | ((with_reducible refine gate_dst (N := 2) rfl ?_); refine box_event ?hg (N := 2) ?hd (cs := #[.bool a0_0, .slice A0_1 l0_1.length c0_1]) (t := 24) ?hr ?_; (case hd => rfl); (case hg => rfl); (case hr => first | (go_simp; done) | (go_simp; rfl)); intro gb181 hg w4 hbox hb; have n0_ := Aside0.mk (below_step (by repeat (first | (with_reducible first | exact HB.out | apply below_alloc | apply pw_below_drewN | apply below_drew1) | exact HB.out)) hb); have n1_ := Aside0.mk (hbox); have n2_ := Aside0.mk ((by rw [hg]; exact (below_size (by repeat (first | (with_reducible first | exact HB.out | apply below_alloc | apply pw_below_drewN | apply below_drew1) | exact HB.out))) : w.heap.size ≤ gb181)); have n3_ := Aside0.mk ((by rw [hg]; exact (below_size (by repeat (first | (with_reducible first | exact HB.out | apply below_alloc | apply pw_below_drewN | apply below_drew1) | exact HB.out))) : w.heap.size ≤ gb181)); clear HB; have HB := n0_; have BK181 := n1_; have GW181 := n2_; have GE181 := n3_; clear n0_ n1_ n2_ n3_; clear hb hbox hg) | ((with_reducible refine gate_dst (N := 3) rfl ?_); refine box_event ?hg (N := 3) ?hd (cs := #[.bool a1_0, .slice A1_1 l1_1.length c1_1]) (t := 24) ?hr ?_; (case hd => rfl); (case hg => rfl); (case hr => first | (go_simp; done) | (go_simp; rfl)); intro gb182 hg w5 hbox hb; have n0_ := Aside0.mk (blk_below (g := gb181) (o := .cells #[.bool a0_0, .slice A0_1 l0_1.length c0_1] 24 (0, 0)) (by (with_reducible repeat (first | refine blk_drewN ?_ _ | refine blk_drew ?_ | refine blk_alloc ?_ _)); exact BK181.out) hb); have n1_ := Aside0.mk (below_step (by repeat (first | (with_reducible first | exact HB.out | apply below_alloc | apply pw_below_drewN | apply below_drew1 | refine below_set ?_ GE181.out) | exact HB.out)) hb); have n2_ := Aside0.mk (hbox); have n3_ := Aside0.mk ((by rw [hg]; exact (below_size (by repeat (first | (with_reducible first | exact HB.out | apply below_alloc | apply pw_below_drewN | apply below_drew1 | refine below_set ?_ GE181.out) | exact HB.out))) : w.heap.size ≤ gb182)); have n4_ := Aside0.mk ((by rw [hg]; exact (below_size (by repeat (first | (with_reducible first | exact HB.out | apply below_alloc | apply pw_below_drewN | apply below_drew1 | refine below_set ?_ GE181.out) | exact HB.out))) : w.heap.size ≤ gb182)); have n5_ := Aside0.mk ((by rw [hg]; exact Nat.ne_of_lt (blk_lt (g := gb181) (o := .cells #[.bool a0_0, .slice A0_1 l0_1.length c0_1] 24 (0, 0)) (by (with_reducible repeat (first | refine blk_drewN ?_ _ | refine blk_drew ?_ | refine blk_alloc ?_ _)); exact BK181.out)) : gb181 ≠ gb182)); have n6_ := Aside0.mk ((by rw [hg]; exact Nat.ne_of_gt (blk_lt (g := gb181) (o := .cells #[.bool a0_0, .slice A0_1 l0_1.length c0_1] 24 (0, 0)) (by (with_reducible repeat (first | refine blk_drewN ?_ _ | refine blk_drew ?_ | refine blk_alloc ?_ _)); exact BK181.out)) : gb182 ≠ gb181)); clear BK181; clear HB; have BK181 := n0_; have HB := n1_; have BK182 := n2_; have GW182 := n3_; have GE182 := n4_; have NB181_182 := n5_; have NB182_181 := n6_; clear n0_ n1_ n2_ n3_ n4_ n5_ n6_; clear hb hbox hg) | ((with_reducible refine gate_dst (N := 4) rfl ?_); refine box_event ?hg (N := 4) ?hd (cs := #[.bool false, .slice none 0 0]) (t := 24) ?hr ?_; (case hd => rfl); (case hg => rfl); (case hr => first | (go_simp; done) | (go_simp; rfl)); intro gb183 hg w6 hbox hb; have n0_ := Aside0.mk (blk_below (g := gb181) (o := .cells #[.bool a0_0, .slice A0_1 l0_1.length c0_1] 24 (0, 0)) (by (with_reducible repeat (first | refine blk_drewN ?_ _ | refine blk_drew ?_ | refine blk_alloc ?_ _)); exact BK181.out) hb); have n1_ := Aside0.mk (blk_below (g := gb182) (o := .cells #[.bool a1_0, .slice A1_1 l1_1.length c1_1] 24 (0, 0)) (by (with_reducible repeat (first | refine blk_drewN ?_ _ | refine blk_drew ?_ | refine blk_alloc ?_ _)); exact BK182.out) hb); have n2_ := Aside0.mk (below_step (by repeat (first | (with_reducible first | exact HB.out | apply below_alloc | apply pw_below_drewN | apply below_drew1 | refine below_set ?_ GE181.out | refine below_set ?_ GE182.out) | exact HB.out)) hb); have n3_ := Aside0.mk (hbox); have n4_ := Aside0.mk ((by rw [hg]; exact (below_size (by repeat (first | (with_reducible first | exact HB.out | apply below_alloc | apply pw_below_drewN | apply below_drew1 | refine below_set ?_ GE181.out | refine below_set ?_ GE182.out) | exact HB.out))) : w.heap.size ≤ gb183)); have n5_ := Aside0.mk ((by rw [hg]; exact (below_size (by repeat (first | (with_reducible first | exact HB.out | apply below_alloc | apply pw_below_drewN | apply below_drew1 | refine below_set ?_ GE181.out | refine below_set ?_ GE182.out) | exact HB.out))) : w.heap.size ≤ gb183)); have n6_ := Aside0.mk ((by rw [hg]; exact Nat.ne_of_lt (blk_lt (g := gb181) (o := .cells #[.bool a0_0, .slice A0_1 l0_1.length c0_1] 24 (0, 0)) (by (with_reducible repeat (first | refine blk_drewN ?_ _ | refine blk_drew ?_ | refine blk_alloc ?_ _)); exact BK181.out)) : gb181 ≠ gb183)); have n7_ := Aside0.mk ((by rw [hg]; exact Nat.ne_of_gt (blk_lt (g := gb181) (o := .cells #[.bool a0_0, .slice A0_1 l0_1.length c0_1] 24 (0, 0)) (by (with_reducible repeat (first | refine blk_drewN ?_ _ | refine blk_drew ?_ | refine blk_alloc ?_ _)); exact BK181.out)) : gb183 ≠ gb181)); have n8_ := Aside0.mk ((by rw [hg]; exact Nat.ne_of_lt (blk_lt (g := gb182) (o := .cells #[.bool a1_0, .slice A1_1 l1_1.length c1_1] 24 (0, 0)) (by (with_reducible repeat (first | refine blk_drewN ?_ _ | refine blk_drew ?_ | refine blk_alloc ?_ _)); exact BK182.out)) : gb182 ≠ gb183)); have n9_ := Aside0.mk ((by rw [hg]; exact Nat.ne_of_gt (blk_lt (g := gb182) (o := .cells #[.bool a1_0, .slice A1_1 l1_1.length c1_1] 24 (0, 0)) (by (with_reducible repeat (first | refine blk_drewN ?_ _ | refine blk_drew ?_ | refine blk_alloc ?_ _)); exact BK182.out)) : gb183 ≠ gb182)); clear BK181; clear BK182; clear HB; have BK181 := n0_; have BK182 := n1_; have HB := n2_; have BK183 := n3_; have GW183 := n4_; have GE183 := n5_; have NB181_183 := n6_; have NB183_181 := n7_; have NB182_183 := n8_; have NB183_182 := n9_; clear n0_ n1_ n2_ n3_ n4_ n5_ n6_ n7_ n8_ n9_; clear hb hbox hg))
  (try simp only [Act.put, List.setIfInBounds_toArray, List.set_cons_zero, List.set_cons_succ])
  go_cut [21] (fun v21 wc => ∃ (kq : Nat) (x21_2 : Bool), v21 = .bool x21_2 ∧ Aside0 (marginaliaref01_Mul.j0 kq x21_2 a0_0 l0_1 a1_0 l1_1 = some (r1, r2, r3)) ∧ Aside0 (kq ≤ k) ∧ Aside0 (wc.heap[gb181]? = some (.cells #[.bool a0_0, (.slice A0_1 l0_1.length c0_1)] 24 (0, 0))) ∧ Aside0 (wc.heap[gb182]? = some (.cells #[.bool a1_0, (.slice A1_1 l1_1.length c1_1)] 24 (0, 0))) ∧ Aside0 (wc.heap[gb183]? = some (.cells #[.bool false, (.slice none 0 0)] 24 (0, 0))) ∧ Aside0 (Below w.heap.size w wc))
  case first =>
    have H := HC3.out
    clear HC3
    replace H := Option.bind_eq_some_iff.mp H
    obtain ⟨t184, A70, H⟩ := H
    replace H : (if t184 = true then ((marginaliaref01_Sound.f k a1_0 l1_1).bind fun t185 => (marginaliaref01_Mul.j0 k (!t185) a0_0 l0_1 a1_0 l1_1)) else (marginaliaref01_Mul.j0 k true a0_0 l0_1 a1_0 l1_1)) = some (r1, r2, r3) := H
    have A7 := Aside0.mk A70
    clear A70
    by_cases c8 : t184 = true
    · subst c8
      have H1 : ((marginaliaref01_Sound.f k a1_0 l1_1).bind fun t185 => (marginaliaref01_Mul.j0 k (!t185) a0_0 l0_1 a1_0 l1_1)) = some (r1, r2, r3) := by rw [if_pos rfl] at H; exact H
      clear H
      have H := H1
      clear H1
      replace H := Option.bind_eq_some_iff.mp H
      obtain ⟨t185, A90, H⟩ := H
      replace H : (marginaliaref01_Mul.j0 k (!t185) a0_0 l0_1 a1_0 l1_1) = some (r1, r2, r3) := H
      have A9 := Aside0.mk A90
      clear A90
      have H' := Aside0.mk H
      clear H
      have hnb10 := NB181_182.out
      have hnc10 := NB182_181.out
      have hnb11 := NB181_183.out
      have hnc11 := NB183_181.out
      have hcz12_0 : w6.cell? ⟨gb181, 0, none⟩ = some (.bool a0_0) := (blk_cell BK181.out 0).trans rfl
      have hcz12_1 : w6.cell? ⟨gb181, 1, none⟩ = some (.slice A0_1 l0_1.length c0_1) := (blk_cell BK181.out 1).trans rfl
      have hfz12_0 := blk_frozen BK181.out 0
      have hfz12_1 := blk_frozen BK181.out 1
      go_wp2_with (first | ((with_reducible refine gate_callee (f := 24) rfl ?_); refine goesL_ (some 15) rfl rfl Tryd.func24 (by kernel_rfl) rfl #[.agg #[.bool a0_0, .slice A0_1 l0_1.length c0_1]] rfl (by (try simp only [List.map_toArray, List.map_cons, List.map_nil]); first | done | rfl | (simp only [List.length_drop, List.length_take]; rfl)) ?_; (with_reducible refine (marginaliaref01_Sound.calls k a0_0 _ _ l0_1 true _ ?side1 ?side2 A7.out).mono ?_); (case side1 => repeat (first | exact (Kd.C_below HR0_1.out HB.out) | (with_reducible refine Kd.C_alloc ?_ _) | (with_reducible refine Kd.C_drewN ?_ _) | (with_reducible refine Kd.C_drew ?_))); (case side2 => exact HC0_1.out); rintro e w13 ⟨rfl, hb⟩; refine ⟨_, rfl, ?_⟩; have n0_ := Aside0.mk (blk_below (g := gb181) (o := .cells #[.bool a0_0, .slice A0_1 l0_1.length c0_1] 24 (0, 0)) (by (with_reducible repeat (first | refine blk_drewN ?_ _ | refine blk_drew ?_ | refine blk_alloc ?_ _)); exact BK181.out) hb); have n1_ := Aside0.mk (blk_below (g := gb182) (o := .cells #[.bool a1_0, .slice A1_1 l1_1.length c1_1] 24 (0, 0)) (by (with_reducible repeat (first | refine blk_drewN ?_ _ | refine blk_drew ?_ | refine blk_alloc ?_ _)); exact BK182.out) hb); have n2_ := Aside0.mk (blk_below (g := gb183) (o := .cells #[.bool false, .slice none 0 0] 24 (0, 0)) (by (with_reducible repeat (first | refine blk_drewN ?_ _ | refine blk_drew ?_ | refine blk_alloc ?_ _)); exact BK183.out) hb); have n3_ := Aside0.mk (below_step (by repeat (first | (with_reducible first | exact HB.out | apply below_alloc | apply pw_below_drewN | apply below_drew1 | refine below_set ?_ GE181.out | refine below_set ?_ GE182.out | refine below_set ?_ GE183.out) | exact HB.out)) hb); clear BK181; clear BK182; clear BK183; clear HB; have BK181 := n0_; have BK182 := n1_; have BK183 := n2_; have HB := n3_; clear n0_ n1_ n2_ n3_; (try clear hb); (try clear hb2); (try clear hk); (try clear hi); have hnb14 := NB182_183.out; have hnc14 := NB183_182.out; have hcz15_0 : w13.cell? ⟨gb182, 0, none⟩ = some (.bool a1_0) := (blk_cell BK182.out 0).trans rfl; have hcz15_1 : w13.cell? ⟨gb182, 1, none⟩ = some (.slice A1_1 l1_1.length c1_1) := (blk_cell BK182.out 1).trans rfl; have hfz15_0 := blk_frozen BK182.out 0; have hfz15_1 := blk_frozen BK182.out 1) | (go_at_call 24; (with_reducible refine (marginaliaref01_Sound.calls k a1_0 _ _ l1_1 t185 _ ?side1 ?side2 A9.out).mono ?_); (case side1 => repeat (first | exact (Kd.C_below HR1_1.out HB.out) | (with_reducible refine Kd.C_alloc ?_ _) | (with_reducible refine Kd.C_drewN ?_ _) | (with_reducible refine Kd.C_drew ?_))); (case side2 => exact HC1_1.out); rintro e w16 ⟨rfl, hb⟩; have n0_ := Aside0.mk (blk_below (g := gb181) (o := .cells #[.bool a0_0, .slice A0_1 l0_1.length c0_1] 24 (0, 0)) (by (with_reducible repeat (first | refine blk_drewN ?_ _ | refine blk_drew ?_ | refine blk_alloc ?_ _)); exact BK181.out) hb); have n1_ := Aside0.mk (blk_below (g := gb182) (o := .cells #[.bool a1_0, .slice A1_1 l1_1.length c1_1] 24 (0, 0)) (by (with_reducible repeat (first | refine blk_drewN ?_ _ | refine blk_drew ?_ | refine blk_alloc ?_ _)); exact BK182.out) hb); have n2_ := Aside0.mk (blk_below (g := gb183) (o := .cells #[.bool false, .slice none 0 0] 24 (0, 0)) (by (with_reducible repeat (first | refine blk_drewN ?_ _ | refine blk_drew ?_ | refine blk_alloc ?_ _)); exact BK183.out) hb); have n3_ := Aside0.mk (below_step (by repeat (first | (with_reducible first | exact HB.out | apply below_alloc | apply pw_below_drewN | apply below_drew1 | refine below_set ?_ GE181.out | refine below_set ?_ GE182.out | refine below_set ?_ GE183.out) | exact HB.out)) hb); clear BK181; clear BK182; clear BK183; clear HB; have BK181 := n0_; have BK182 := n1_; have BK183 := n2_; have HB := n3_; clear n0_ n1_ n2_ n3_; (try clear hb); (try clear hb2); (try clear hk); (try clear hi)))
      go_meet
      case rel => exact ⟨_, (!t185), (by first | rfl | (simp; done) | (simp [*]; done)), H', ⟨by first | omega | exact Nat.le_refl _⟩, ⟨by (with_reducible repeat (first | refine blk_drewN ?_ _ | refine blk_drew ?_ | refine blk_alloc ?_ _)); exact BK181.out⟩, ⟨by (with_reducible repeat (first | refine blk_drewN ?_ _ | refine blk_drew ?_ | refine blk_alloc ?_ _)); exact BK182.out⟩, ⟨by (with_reducible repeat (first | refine blk_drewN ?_ _ | refine blk_drew ?_ | refine blk_alloc ?_ _)); exact BK183.out⟩, ⟨by repeat (first | (with_reducible first | exact HB.out | apply below_alloc | apply pw_below_drewN | apply below_drew1 | refine below_set ?_ GE181.out | refine below_set ?_ GE182.out | refine below_set ?_ GE183.out) | exact HB.out)⟩⟩
    · replace c8 := Bool.eq_false_iff.mpr c8
      subst c8
      have H1 : (marginaliaref01_Mul.j0 k true a0_0 l0_1 a1_0 l1_1) = some (r1, r2, r3) := by rw [if_neg (show ¬ (false = true) by decide)] at H; exact H
      clear H
      have H := H1
      clear H1
      have H' := Aside0.mk H
      clear H
      have hnb17 := NB181_182.out
      have hnc17 := NB182_181.out
      have hnb18 := NB181_183.out
      have hnc18 := NB183_181.out
      have hcz19_0 : w6.cell? ⟨gb181, 0, none⟩ = some (.bool a0_0) := (blk_cell BK181.out 0).trans rfl
      have hcz19_1 : w6.cell? ⟨gb181, 1, none⟩ = some (.slice A0_1 l0_1.length c0_1) := (blk_cell BK181.out 1).trans rfl
      have hfz19_0 := blk_frozen BK181.out 0
      have hfz19_1 := blk_frozen BK181.out 1
      go_wp2_with (first | ((with_reducible refine gate_callee (f := 24) rfl ?_); refine goesL_ (some 15) rfl rfl Tryd.func24 (by kernel_rfl) rfl #[.agg #[.bool a0_0, .slice A0_1 l0_1.length c0_1]] rfl (by (try simp only [List.map_toArray, List.map_cons, List.map_nil]); first | done | rfl | (simp only [List.length_drop, List.length_take]; rfl)) ?_; (with_reducible refine (marginaliaref01_Sound.calls k a0_0 _ _ l0_1 false _ ?side1 ?side2 A7.out).mono ?_); (case side1 => repeat (first | exact (Kd.C_below HR0_1.out HB.out) | (with_reducible refine Kd.C_alloc ?_ _) | (with_reducible refine Kd.C_drewN ?_ _) | (with_reducible refine Kd.C_drew ?_))); (case side2 => exact HC0_1.out); rintro e w20 ⟨rfl, hb⟩; refine ⟨_, rfl, ?_⟩; have n0_ := Aside0.mk (blk_below (g := gb181) (o := .cells #[.bool a0_0, .slice A0_1 l0_1.length c0_1] 24 (0, 0)) (by (with_reducible repeat (first | refine blk_drewN ?_ _ | refine blk_drew ?_ | refine blk_alloc ?_ _)); exact BK181.out) hb); have n1_ := Aside0.mk (blk_below (g := gb182) (o := .cells #[.bool a1_0, .slice A1_1 l1_1.length c1_1] 24 (0, 0)) (by (with_reducible repeat (first | refine blk_drewN ?_ _ | refine blk_drew ?_ | refine blk_alloc ?_ _)); exact BK182.out) hb); have n2_ := Aside0.mk (blk_below (g := gb183) (o := .cells #[.bool false, .slice none 0 0] 24 (0, 0)) (by (with_reducible repeat (first | refine blk_drewN ?_ _ | refine blk_drew ?_ | refine blk_alloc ?_ _)); exact BK183.out) hb); have n3_ := Aside0.mk (below_step (by repeat (first | (with_reducible first | exact HB.out | apply below_alloc | apply pw_below_drewN | apply below_drew1 | refine below_set ?_ GE181.out | refine below_set ?_ GE182.out | refine below_set ?_ GE183.out) | exact HB.out)) hb); clear BK181; clear BK182; clear BK183; clear HB; have BK181 := n0_; have BK182 := n1_; have BK183 := n2_; have HB := n3_; clear n0_ n1_ n2_ n3_; (try clear hb); (try clear hb2); (try clear hk); (try clear hi)))
      go_meet
      case rel => exact ⟨_, (true), (by first | rfl | (simp; done) | (simp [*]; done)), H', ⟨by first | omega | exact Nat.le_refl _⟩, ⟨by (with_reducible repeat (first | refine blk_drewN ?_ _ | refine blk_drew ?_ | refine blk_alloc ?_ _)); exact BK181.out⟩, ⟨by (with_reducible repeat (first | refine blk_drewN ?_ _ | refine blk_drew ?_ | refine blk_alloc ?_ _)); exact BK182.out⟩, ⟨by (with_reducible repeat (first | refine blk_drewN ?_ _ | refine blk_drew ?_ | refine blk_alloc ?_ _)); exact BK183.out⟩, ⟨by repeat (first | (with_reducible first | exact HB.out | apply below_alloc | apply pw_below_drewN | apply below_drew1 | refine below_set ?_ GE181.out | refine below_set ?_ GE182.out | refine below_set ?_ GE183.out) | exact HB.out)⟩⟩
  case rest =>
    clear HC3
    try clear c1
    try clear c2
    try clear p2
    try clear c8
    try clear c10
    try clear c11
    try clear c14
    try clear c16
    try clear c17
    try clear c18
    try clear hcz12_0
    try clear hcz12_1
    try clear hcz15_0
    try clear hcz15_1
    try clear hcz19_0
    try clear hcz19_1
    try clear hfz12_0
    try clear hfz12_1
    try clear hfz15_0
    try clear hfz15_1
    try clear hfz19_0
    try clear hfz19_1
    obtain ⟨kq, x21_2, rfl, HA, HJ2, BK181, BK182, BK183, HB⟩ := hcut
    cases kq with
    | zero => exact absurd HA.out (by simp [marginaliaref01_Mul.j0])
    | succ kj2 =>
      have H := HA.out
      clear HA
      simp only [marginaliaref01_Mul.j0] at H
      by_cases c21 : x21_2 = true
      · subst c21
        have H1 : (some (false, ([] : List Int), 2)) = some (r1, r2, r3) := by rw [if_pos rfl] at H; exact H
        clear H
        have H := H1
        clear H1
        simp only [Option.some.injEq, Prod.mk.injEq] at H
        obtain ⟨rfl, rfl, rfl⟩ := H
        have hnb22 := NB183_181.out
        have hnc22 := NB181_183.out
        have hnb23 := NB183_182.out
        have hnc23 := NB182_183.out
        have hcz24_0 : wc.cell? ⟨gb183, 0, none⟩ = some (.bool false) := (blk_cell BK183.out 0).trans rfl
        have hcz24_1 : wc.cell? ⟨gb183, 1, none⟩ = some (.slice none 0 0) := (blk_cell BK183.out 1).trans rfl
        have hfz24_0 := blk_frozen BK183.out 0
        have hfz24_1 := blk_frozen BK183.out 1
        go_wp2
        refine bodyPost_ret (results_ct rfl _ _ gb183 24 #[.bool false, .slice none 0 0] (0, 0) _ rfl (by (with_reducible repeat (first | refine blk_drewN ?_ _ | refine blk_drew ?_ | refine blk_alloc ?_ _)); refine blk_put (cs := #[.bool false, .slice none 0 0]) ?_ 1 _ rfl; (with_reducible repeat (first | refine blk_drewN ?_ _ | refine blk_drew ?_ | refine blk_alloc ?_ _)); refine blk_put (cs := #[.bool false, .slice none 0 0]) ?_ 0 _ rfl; (with_reducible repeat (first | refine blk_drewN ?_ _ | refine blk_drew ?_ | refine blk_alloc ?_ _)); exact BK183.out) Tryd.underlying24 rfl (by kernel_rfl)) rfl ?_
        exact ⟨_, by first | rfl | (simp [errW_none, errW_some] <;> rfl) | (simp [*, errW_none, errW_some] <;> rfl), by first | exact Kd.R_nil _ _ _ _ _ | exact Kd.N_nil _ _ _ _ _ | exact Kd.V_nil _ _ _ _ _ | exact Kd.Q_nil _ _ _ _ _ | exact Kd.S_nil _ _ _ _ _, by repeat (first | (with_reducible first | exact HB.out | apply below_alloc | apply pw_below_drewN | apply below_drew1 | refine below_set ?_ GE181.out | refine below_set ?_ GE182.out | refine below_set ?_ GE183.out) | exact HB.out)⟩
      · replace c21 := Bool.eq_false_iff.mpr c21
        subst c21
        have H1 : ((marginaliaref01_Digits.f kj2 a0_0 l0_1).bind fun t186 => ((marginaliaref01_Digits.f kj2 a1_0 l1_1).bind fun t189 => (if 0 ≤ (wrap64 ((wrap64 ((t186.length : Int) + (t189.length : Int))) + 1)) then (if (wrap64 ((wrap64 ((t186.length : Int) + (t189.length : Int))) + 1) : Int).toNat ≤ 35184372088832 then (marginaliaref01_Mul.l0 kj2 t186 t189 (List.replicate (wrap64 ((wrap64 ((t186.length : Int) + (t189.length : Int))) + 1) : Int).toNat 0) 0 a0_0 l0_1 a1_0 l1_1) else (none)) else (none)))) = some (r1, r2, r3) := by rw [if_neg (show ¬ (false = true) by decide)] at H; exact H
        clear H
        have H := H1
        clear H1
        replace H := Option.bind_eq_some_iff.mp H
        obtain ⟨t186, A250, H⟩ := H
        replace H : ((marginaliaref01_Digits.f kj2 a1_0 l1_1).bind fun t189 => (if 0 ≤ (wrap64 ((wrap64 ((t186.length : Int) + (t189.length : Int))) + 1)) then (if (wrap64 ((wrap64 ((t186.length : Int) + (t189.length : Int))) + 1) : Int).toNat ≤ 35184372088832 then (marginaliaref01_Mul.l0 kj2 t186 t189 (List.replicate (wrap64 ((wrap64 ((t186.length : Int) + (t189.length : Int))) + 1) : Int).toNat 0) 0 a0_0 l0_1 a1_0 l1_1) else (none)) else (none))) = some (r1, r2, r3) := H
        have A25 := Aside0.mk A250
        clear A250
        replace H := Option.bind_eq_some_iff.mp H
        obtain ⟨t189, A260, H⟩ := H
        replace H : (if 0 ≤ (wrap64 ((wrap64 ((t186.length : Int) + (t189.length : Int))) + 1)) then (if (wrap64 ((wrap64 ((t186.length : Int) + (t189.length : Int))) + 1) : Int).toNat ≤ 35184372088832 then (marginaliaref01_Mul.l0 kj2 t186 t189 (List.replicate (wrap64 ((wrap64 ((t186.length : Int) + (t189.length : Int))) + 1) : Int).toNat 0) 0 a0_0 l0_1 a1_0 l1_1) else (none)) else (none)) = some (r1, r2, r3) := H
        have A26 := Aside0.mk A260
        clear A260
        obtain ⟨ji27, hji27⟩ : ∃ j_ : Int, (wrap64 ((wrap64 ((t186.length : Int) + (t189.length : Int))) + 1)) = j_ := ⟨_, rfl⟩
        replace H : (if 0 ≤ (ji27) then (if (ji27 : Int).toNat ≤ 35184372088832 then (marginaliaref01_Mul.l0 kj2 t186 t189 (List.replicate (ji27 : Int).toNat 0) 0 a0_0 l0_1 a1_0 l1_1) else (none)) else (none)) = some (r1, r2, r3) := by first | (rw [hji27] at H; exact H) | (simp only [hji27] at H ⊢; exact H)
        (try rw [hji27] at A25)
        (try rw [hji27] at A26)
        have hji27w : (IntKind.i64.wrap ((wrap64 ((t186.length : Int) + (t189.length : Int))) + 1)) = ji27 := (i64_w _).trans hji27
        by_cases c28 : 0 ≤ (ji27)
        · rw [if_pos c28] at H
          have c28b0 := eq_true c28
          have c28b1 : decide (0 ≤ (ji27)) = true := decide_eq_true c28
          clear c28
          by_cases c29 : (ji27 : Int).toNat ≤ 35184372088832
          · rw [if_pos c29] at H
            have c29b0 := eq_true c29
            have c29b1 : decide ((ji27 : Int).toNat ≤ 35184372088832) = true := decide_eq_true c29
            clear c29
            obtain ⟨y192, hy192⟩ : ∃ y_ : List Int, y_ = (List.replicate (ji27 : Int).toNat 0) := ⟨_, rfl⟩
            replace H : (marginaliaref01_Mul.l0 kj2 t186 t189 y192 0 a0_0 l0_1 a1_0 l1_1) = some (r1, r2, r3) := by first | (rw [hy192]; with_reducible exact H) | (have H2_ := (Option.bind_some _ _).symm.trans H; rw [hy192]; with_reducible exact H2_) | (have H2_ := (Option.bind_some _ _).symm.trans H; with_reducible exact H2_) | with_reducible exact H | (rw [hy192]; exact H) | exact H
            have Ny192 := Aside0.mk hy192
            clear hy192
            have H' := Aside0.mk H
            clear H
            have hnb30 := NB181_182.out
            have hnc30 := NB182_181.out
            have hnb31 := NB181_183.out
            have hnc31 := NB183_181.out
            have hcz32_0 : wc.cell? ⟨gb181, 0, none⟩ = some (.bool a0_0) := (blk_cell BK181.out 0).trans rfl
            have hcz32_1 : wc.cell? ⟨gb181, 1, none⟩ = some (.slice A0_1 l0_1.length c0_1) := (blk_cell BK181.out 1).trans rfl
            have hfz32_0 := blk_frozen BK181.out 0
            have hfz32_1 := blk_frozen BK181.out 1
            go_wp2_with (first | ((with_reducible refine gate_callee (f := 40) rfl ?_); refine goesL_ (some 24) rfl rfl Tryd.func40 (by kernel_rfl) rfl #[.agg #[.bool a0_0, .slice A0_1 l0_1.length c0_1]] rfl (by (try simp only [List.map_toArray, List.map_cons, List.map_nil]); first | done | rfl | (simp only [List.length_drop, List.length_take]; rfl)) ?_; (with_reducible refine (marginaliaref01_Digits.calls kj2 a0_0 _ _ l0_1 t186 _ ?side1 ?side2 A25.out).mono ?_); (case side1 => repeat (first | exact (Kd.C_below HR0_1.out HB.out) | (with_reducible refine Kd.C_alloc ?_ _) | (with_reducible refine Kd.C_drewN ?_ _) | (with_reducible refine Kd.C_drew ?_))); (case side2 => exact HC0_1.out); rintro e w33 ⟨v187, rfl, ho0, hb⟩; refine ⟨_, rfl, ?_⟩; have n0_ := Aside0.mk (Kd.R_lower ho0 (below_size (by repeat (first | (with_reducible first | exact HB.out | apply below_alloc | apply pw_below_drewN | apply below_drew1 | refine below_set ?_ GE181.out | refine below_set ?_ GE182.out | refine below_set ?_ GE183.out) | exact HB.out)))); have n1_ := Aside0.mk (blk_below (g := gb181) (o := .cells #[.bool a0_0, .slice A0_1 l0_1.length c0_1] 24 (0, 0)) (by (with_reducible repeat (first | refine blk_drewN ?_ _ | refine blk_drew ?_ | refine blk_alloc ?_ _)); exact BK181.out) hb); have n2_ := Aside0.mk (blk_below (g := gb182) (o := .cells #[.bool a1_0, .slice A1_1 l1_1.length c1_1] 24 (0, 0)) (by (with_reducible repeat (first | refine blk_drewN ?_ _ | refine blk_drew ?_ | refine blk_alloc ?_ _)); exact BK182.out) hb); have n3_ := Aside0.mk (blk_below (g := gb183) (o := .cells #[.bool false, .slice none 0 0] 24 (0, 0)) (by (with_reducible repeat (first | refine blk_drewN ?_ _ | refine blk_drew ?_ | refine blk_alloc ?_ _)); exact BK183.out) hb); have n4_ := Aside0.mk (below_step (by repeat (first | (with_reducible first | exact HB.out | apply below_alloc | apply pw_below_drewN | apply below_drew1 | refine below_set ?_ GE181.out | refine below_set ?_ GE182.out | refine below_set ?_ GE183.out) | exact HB.out)) hb); clear BK181; clear BK182; clear BK183; clear HB; have HO188 := n0_; have BK181 := n1_; have BK182 := n2_; have BK183 := n3_; have HB := n4_; clear n0_ n1_ n2_ n3_ n4_; (try clear hb); (try clear hb2); (try clear hk); (try clear hi); (try clear ho0); have hnb34 := NB182_183.out; have hnc34 := NB183_182.out; have hcz35_0 : w33.cell? ⟨gb182, 0, none⟩ = some (.bool a1_0) := (blk_cell BK182.out 0).trans rfl; have hcz35_1 : w33.cell? ⟨gb182, 1, none⟩ = some (.slice A1_1 l1_1.length c1_1) := (blk_cell BK182.out 1).trans rfl; have hfz35_0 := blk_frozen BK182.out 0; have hfz35_1 := blk_frozen BK182.out 1) | ((with_reducible refine gate_callee (f := 40) rfl ?_); refine goesL_ (some 26) rfl rfl Tryd.func40 (by kernel_rfl) rfl #[.agg #[.bool a1_0, .slice A1_1 l1_1.length c1_1]] rfl (by (try simp only [List.map_toArray, List.map_cons, List.map_nil]); first | done | rfl | (simp only [List.length_drop, List.length_take]; rfl)) ?_; (with_reducible refine (marginaliaref01_Digits.calls kj2 a1_0 _ _ l1_1 t189 _ ?side1 ?side2 A26.out).mono ?_); (case side1 => repeat (first | exact (Kd.C_below HR1_1.out HB.out) | (with_reducible refine Kd.C_alloc ?_ _) | (with_reducible refine Kd.C_drewN ?_ _) | (with_reducible refine Kd.C_drew ?_))); (case side2 => exact HC1_1.out); rintro e w36 ⟨v190, rfl, ho0, hb⟩; refine ⟨_, rfl, ?_⟩; have n0_ := Aside0.mk (Kd.R_elder' (by (with_reducible repeat (first | apply Kd.R_alloc | apply Kd.R_drewN | apply Kd.R_drew)); exact HO188.out) (Kd.R_base ho0) hb); have n1_ := Aside0.mk (Kd.R_lower (Kd.R_new' ho0 (Kd.R_lt (by (with_reducible repeat (first | apply Kd.R_alloc | apply Kd.R_drewN | apply Kd.R_drew)); exact HO188.out))) (below_size (by repeat (first | (with_reducible first | exact HB.out | apply below_alloc | apply pw_below_drewN | apply below_drew1 | refine below_set ?_ GE181.out | refine below_set ?_ GE182.out | refine below_set ?_ GE183.out) | exact HB.out)))); have n2_ := Aside0.mk (blk_below (g := gb181) (o := .cells #[.bool a0_0, .slice A0_1 l0_1.length c0_1] 24 (0, 0)) (by (with_reducible repeat (first | refine blk_drewN ?_ _ | refine blk_drew ?_ | refine blk_alloc ?_ _)); exact BK181.out) hb); have n3_ := Aside0.mk (blk_below (g := gb182) (o := .cells #[.bool a1_0, .slice A1_1 l1_1.length c1_1] 24 (0, 0)) (by (with_reducible repeat (first | refine blk_drewN ?_ _ | refine blk_drew ?_ | refine blk_alloc ?_ _)); exact BK182.out) hb); have n4_ := Aside0.mk (blk_below (g := gb183) (o := .cells #[.bool false, .slice none 0 0] 24 (0, 0)) (by (with_reducible repeat (first | refine blk_drewN ?_ _ | refine blk_drew ?_ | refine blk_alloc ?_ _)); exact BK183.out) hb); have n5_ := Aside0.mk (below_step (by repeat (first | (with_reducible first | exact HB.out | apply below_alloc | apply pw_below_drewN | apply below_drew1 | refine below_set ?_ GE181.out | refine below_set ?_ GE182.out | refine below_set ?_ GE183.out) | exact HB.out)) hb); clear HO188; clear BK181; clear BK182; clear BK183; clear HB; have HO188 := n0_; have HO191 := n1_; have BK181 := n2_; have BK182 := n3_; have BK183 := n4_; have HB := n5_; clear n0_ n1_ n2_ n3_ n4_ n5_; (try clear hb); (try clear hb2); (try clear hk); (try clear hi); (try clear ho0); obtain ⟨Ao37, co37, eo37⟩ := Kd.R_slice HO188.out; subst eo37; obtain ⟨Ao38, co38, eo38⟩ := Kd.R_slice HO191.out; subst eo38) | ((with_reducible refine gate_dst (N := 33) rfl ?_); refine Kd.R_make (Kd.int .i64) _ 3 rfl (N := 33) rfl 52 _ _ rfl ji27 rfl rfl Tryd.underlying52 (.int .i64 0) 8 info3 rfl (by decide) (by omega) 0 (ok := fun _ => True) (okp := fun _ => True) rfl (fun _ hk => hk) trivial (of_decide_eq_true (by first | (with_reducible assumption) | assumption)) (Nat.le_trans (Nat.mul_le_mul_right _ (of_decide_eq_true (by first | (with_reducible assumption) | assumption) : ji27.toNat ≤ 35184372088832)) (by omega)) (Below.refl _ _) (Nat.le_refl _) ?_; intro v193 w39 ho40 hb hg_ hnew_; clear hg_ hnew_; (first | rw [← Ny192.out] at ho40 | (simp only [Int.reduceToNat] at ho40; rw [← Ny192.out] at ho40)); have n0_ := Aside0.mk (Kd.R_below (by (with_reducible repeat (first | apply Kd.R_alloc | apply Kd.R_drewN | apply Kd.R_drew)); exact HO188.out) hb); have n1_ := Aside0.mk (Kd.R_below (by (with_reducible repeat (first | apply Kd.R_alloc | apply Kd.R_drewN | apply Kd.R_drew)); exact HO191.out) hb); have n2_ := Aside0.mk (Kd.R_lower ho40 (below_size (by repeat (first | (with_reducible first | exact HB.out | apply below_alloc | apply pw_below_drewN | apply below_drew1 | refine below_set ?_ GE181.out | refine below_set ?_ GE182.out | refine below_set ?_ GE183.out) | exact HB.out)))); have n3_ := Aside0.mk (blk_below (g := gb181) (o := .cells #[.bool a0_0, .slice A0_1 l0_1.length c0_1] 24 (0, 0)) (by (with_reducible repeat (first | refine blk_drewN ?_ _ | refine blk_drew ?_ | refine blk_alloc ?_ _)); exact BK181.out) hb); have n4_ := Aside0.mk (blk_below (g := gb182) (o := .cells #[.bool a1_0, .slice A1_1 l1_1.length c1_1] 24 (0, 0)) (by (with_reducible repeat (first | refine blk_drewN ?_ _ | refine blk_drew ?_ | refine blk_alloc ?_ _)); exact BK182.out) hb); have n5_ := Aside0.mk (blk_below (g := gb183) (o := .cells #[.bool false, .slice none 0 0] 24 (0, 0)) (by (with_reducible repeat (first | refine blk_drewN ?_ _ | refine blk_drew ?_ | refine blk_alloc ?_ _)); exact BK183.out) hb); have n6_ := Aside0.mk (below_step (by repeat (first | (with_reducible first | exact HB.out | apply below_alloc | apply pw_below_drewN | apply below_drew1 | refine below_set ?_ GE181.out | refine below_set ?_ GE182.out | refine below_set ?_ GE183.out) | exact HB.out)) hb); clear HO188; clear HO191; clear BK181; clear BK182; clear BK183; clear HB; have HO188 := n0_; have HO191 := n1_; have HO194 := n2_; have BK181 := n3_; have BK182 := n4_; have BK183 := n5_; have HB := n6_; clear n0_ n1_ n2_ n3_ n4_ n5_ n6_; clear hb ho40))
            go_loopg [9] kj2 (fun kq v9 w' => ∃ (x8_2 : List Int) (x9_2 : Int), v9 = .int .i64 x9_2 ∧ Aside0 (marginaliaref01_Mul.l0 kq t186 t189 x8_2 x9_2 a0_0 l0_1 a1_0 l1_1 = some (r1, r2, r3)) ∧ Aside0 (kq ≤ kj2) ∧ Aside0 (Kd.R (Kd.int .u8) 5 w' w.heap.size (fun k_ => some k_ ≠ ((.slice Ao38 t189.length co38) : Value).ownBlock) (.slice Ao37 t186.length co37) t186) ∧ Aside0 (Kd.R (Kd.int .u8) 5 w' w.heap.size (fun k_ => some k_ ≠ ((.slice Ao37 t186.length co37) : Value).ownBlock) (.slice Ao38 t189.length co38) t189) ∧ Aside0 (Kd.R (Kd.int .i64) 3 w' w.heap.size (fun _ => True) v193 x8_2) ∧ Aside0 (w'.heap[gb181]? = some (.cells #[.bool a0_0, (.slice A0_1 l0_1.length c0_1)] 24 (0, 0))) ∧ Aside0 (w'.heap[gb182]? = some (.cells #[.bool a1_0, (.slice A1_1 l1_1.length c1_1)] 24 (0, 0))) ∧ Aside0 (w'.heap[gb183]? = some (.cells #[.bool false, (.slice none 0 0)] 24 (0, 0))) ∧ Aside0 (Below w.heap.size w w'))
            case atStart => exact ⟨(y192), (0), (by first | rfl | (simp; done) | (simp [*]; done)), H', ⟨Nat.le_refl _⟩, ⟨by (with_reducible repeat (first | apply Kd.R_alloc | apply Kd.R_drewN | apply Kd.R_drew)); exact Kd.R_mono HO188.out (fun _ hk => hk.2)⟩, ⟨by (with_reducible repeat (first | apply Kd.R_alloc | apply Kd.R_drewN | apply Kd.R_drew)); exact Kd.R_mono HO191.out (fun _ hk => hk.2)⟩, ⟨by (with_reducible repeat (first | apply Kd.R_alloc | apply Kd.R_drewN | apply Kd.R_drew)); exact HO194.out⟩, ⟨by (with_reducible repeat (first | refine blk_drewN ?_ _ | refine blk_drew ?_ | refine blk_alloc ?_ _)); exact BK181.out⟩, ⟨by (with_reducible repeat (first | refine blk_drewN ?_ _ | refine blk_drew ?_ | refine blk_alloc ?_ _)); exact BK182.out⟩, ⟨by (with_reducible repeat (first | refine blk_drewN ?_ _ | refine blk_drew ?_ | refine blk_alloc ?_ _)); exact BK183.out⟩, ⟨by repeat (first | (with_reducible first | exact HB.out | apply below_alloc | apply pw_below_drewN | apply below_drew1 | refine below_set ?_ GE181.out | refine below_set ?_ GE182.out | refine below_set ?_ GE183.out) | exact HB.out)⟩⟩
            case round =>
              clear H'
              try clear c1
              try clear c2
              try clear p2
              try clear c3
              try clear c4
              try clear p6
              try clear c8
              try clear c10
              try clear c11
              try clear c14
              try clear c16
              try clear c17
              try clear c18
              try clear c21
              try clear c22
              try clear c23
              try clear c24
              try clear c28
              try clear c28b0
              try clear c28b1
              try clear c29
              try clear c29b0
              try clear c29b1
              try clear c30
              try clear c31
              try clear c34
              try clear c40
              try clear hcz12_0
              try clear hcz12_1
              try clear hcz15_0
              try clear hcz15_1
              try clear hcz19_0
              try clear hcz19_1
              try clear hcz24_0
              try clear hcz24_1
              try clear hcz32_0
              try clear hcz32_1
              try clear hcz35_0
              try clear hcz35_1
              try clear hfz12_0
              try clear hfz12_1
              try clear hfz15_0
              try clear hfz15_1
              try clear hfz19_0
              try clear hfz19_1
              try clear hfz24_0
              try clear hfz24_1
              try clear hfz32_0
              try clear hfz32_1
              try clear hfz35_0
              try clear hfz35_1
              try clear p2
              obtain ⟨x8_2, x9_2, rfl, HA, HK2, HO_6, HO_7, HO_8, BK181, BK182, BK183, HB⟩ := hrel
              cases gk with
              | zero => exact absurd HA.out (by simp [marginaliaref01_Mul.l0])
              | succ k2 =>
                have H := HA.out
                clear HA
                simp only [marginaliaref01_Mul.l0] at H
                by_cases c41 : x9_2 < (t186.length : Int)
                · rw [if_pos c41] at H
                  have c41b0 : decide (x9_2 < (t186.length : Int)) = true := decide_eq_true c41
                  clear c41
                  have H' := Aside0.mk H
                  clear H
                  go_wp2
                  go_loopg [10] k2 (fun kq v10 w' => ∃ (x8_3 : List Int) (x10_3 : Int), v10 = .int .i64 x10_3 ∧ Aside0 (marginaliaref01_Mul.l1 kq t186 t189 x8_3 x9_2 x10_3 a0_0 l0_1 a1_0 l1_1 = some (r1, r2, r3)) ∧ Aside0 (kq ≤ k2) ∧ Aside0 (Kd.R (Kd.int .u8) 5 w' w.heap.size (fun k_ => some k_ ≠ ((.slice Ao38 t189.length co38) : Value).ownBlock) (.slice Ao37 t186.length co37) t186) ∧ Aside0 (Kd.R (Kd.int .u8) 5 w' w.heap.size (fun k_ => some k_ ≠ ((.slice Ao37 t186.length co37) : Value).ownBlock) (.slice Ao38 t189.length co38) t189) ∧ Aside0 (Kd.R (Kd.int .i64) 3 w' w.heap.size (fun _ => True) v193 x8_3) ∧ Aside0 (w'.heap[gb181]? = some (.cells #[.bool a0_0, (.slice A0_1 l0_1.length c0_1)] 24 (0, 0))) ∧ Aside0 (w'.heap[gb182]? = some (.cells #[.bool a1_0, (.slice A1_1 l1_1.length c1_1)] 24 (0, 0))) ∧ Aside0 (w'.heap[gb183]? = some (.cells #[.bool false, (.slice none 0 0)] 24 (0, 0))) ∧ Aside0 (Below w.heap.size w w'))
                  case atStart => exact ⟨(x8_2), (0), (by first | rfl | (simp; done) | (simp [*]; done)), H', ⟨Nat.le_refl _⟩, ⟨by (with_reducible repeat (first | apply Kd.R_alloc | apply Kd.R_drewN | apply Kd.R_drew)); exact HO_6.out⟩, ⟨by (with_reducible repeat (first | apply Kd.R_alloc | apply Kd.R_drewN | apply Kd.R_drew)); exact HO_7.out⟩, ⟨by (with_reducible repeat (first | apply Kd.R_alloc | apply Kd.R_drewN | apply Kd.R_drew)); exact HO_8.out⟩, ⟨by (with_reducible repeat (first | refine blk_drewN ?_ _ | refine blk_drew ?_ | refine blk_alloc ?_ _)); exact BK181.out⟩, ⟨by (with_reducible repeat (first | refine blk_drewN ?_ _ | refine blk_drew ?_ | refine blk_alloc ?_ _)); exact BK182.out⟩, ⟨by (with_reducible repeat (first | refine blk_drewN ?_ _ | refine blk_drew ?_ | refine blk_alloc ?_ _)); exact BK183.out⟩, ⟨by repeat (first | (with_reducible first | exact HB.out | apply below_alloc | apply pw_below_drewN | apply below_drew1 | refine below_set ?_ GE181.out | refine below_set ?_ GE182.out | refine below_set ?_ GE183.out) | exact HB.out)⟩⟩
                  case round =>
                    clear H'
                    try clear c1
                    try clear c2
                    try clear p2
                    try clear c3
                    try clear c4
                    try clear p6
                    try clear c8
                    try clear c10
                    try clear c11
                    try clear c14
                    try clear c16
                    try clear c17
                    try clear c18
                    try clear c21
                    try clear c22
                    try clear c23
                    try clear c24
                    try clear c28
                    try clear c28b0
                    try clear c28b1
                    try clear c29
                    try clear c29b0
                    try clear c29b1
                    try clear c30
                    try clear c31
                    try clear c34
                    try clear c40
                    try clear c41
                    try clear c41b0
                    try clear hcz12_0
                    try clear hcz12_1
                    try clear hcz15_0
                    try clear hcz15_1
                    try clear hcz19_0
                    try clear hcz19_1
                    try clear hcz24_0
                    try clear hcz24_1
                    try clear hcz32_0
                    try clear hcz32_1
                    try clear hcz35_0
                    try clear hcz35_1
                    try clear hfz12_0
                    try clear hfz12_1
                    try clear hfz15_0
                    try clear hfz15_1
                    try clear hfz19_0
                    try clear hfz19_1
                    try clear hfz24_0
                    try clear hfz24_1
                    try clear hfz32_0
                    try clear hfz32_1
                    try clear hfz35_0
                    try clear hfz35_1
                    try clear p2
                    try clear p6
                    obtain ⟨x8_3, x10_3, rfl, HA, HK3, HO_6, HO_7, HO_8, BK181, BK182, BK183, HB⟩ := hrel
                    cases gk with
                    | zero => exact absurd HA.out (by simp [marginaliaref01_Mul.l1])
                    | succ k3 =>
                      have H := HA.out
                      clear HA
                      simp only [marginaliaref01_Mul.l1] at H
                      by_cases c42 : x10_3 < (t189.length : Int)
                      · rw [if_pos c42] at H
                        have c42b0 : decide (x10_3 < (t189.length : Int)) = true := decide_eq_true c42
                        clear c42
                        obtain ⟨ji43, hji43⟩ : ∃ j_ : Int, (wrap64 (x9_2 + x10_3)) = j_ := ⟨_, rfl⟩
                        replace H : (if 0 ≤ (ji43) then (if (ji43) < (x8_3.length : Int) then (if 0 ≤ x9_2 then (if x9_2 < (t186.length : Int) then (if 0 ≤ x10_3 then (marginaliaref01_Mul.l1 k3 t186 t189 (x8_3.set ((ji43) : Int).toNat (wrap64 ((rd x8_3 (ji43)) + (wrap64 ((wrap64 (rd t186 x9_2)) * (wrap64 (rd t189 x10_3))))))) x9_2 (wrap64 (x10_3 + 1)) a0_0 l0_1 a1_0 l1_1) else (none)) else (none)) else (none)) else (none)) else (none)) = some (r1, r2, r3) := by first | (rw [hji43] at H; exact H) | (simp only [hji43] at H ⊢; exact H)
                        have hji43w : (IntKind.i64.wrap (x9_2 + x10_3)) = ji43 := (i64_w _).trans hji43
                        by_cases c44 : 0 ≤ (ji43)
                        · rw [if_pos c44] at H
                          have c44b0 : decide (0 ≤ (ji43)) = true := decide_eq_true c44
                          clear c44
                          by_cases c45 : (ji43) < (x8_3.length : Int)
                          · rw [if_pos c45] at H
                            have c45b0 : decide ((ji43) < (x8_3.length : Int)) = true := decide_eq_true c45
                            clear c45
                            by_cases c46 : 0 ≤ x9_2
                            · rw [if_pos c46] at H
                              have c46b0 : decide (0 ≤ x9_2) = true := decide_eq_true c46
                              clear c46
                              by_cases c47 : x9_2 < (t186.length : Int)
                              · rw [if_pos c47] at H
                                have c47b0 : decide (x9_2 < (t186.length : Int)) = true := decide_eq_true c47
                                clear c47
                                by_cases c48 : 0 ≤ x10_3
                                · rw [if_pos c48] at H
                                  have c48b0 : decide (0 ≤ x10_3) = true := decide_eq_true c48
                                  clear c48
                                  obtain ⟨y198, hy198⟩ : ∃ y_ : List Int, y_ = (x8_3.set ((ji43) : Int).toNat (wrap64 ((rd x8_3 (ji43)) + (wrap64 ((wrap64 (rd t186 x9_2)) * (wrap64 (rd t189 x10_3))))))) := ⟨_, rfl⟩
                                  replace H : (marginaliaref01_Mul.l1 k3 t186 t189 y198 x9_2 (wrap64 (x10_3 + 1)) a0_0 l0_1 a1_0 l1_1) = some (r1, r2, r3) := by first | (rw [hy198]; with_reducible exact H) | (have H2_ := (Option.bind_some _ _).symm.trans H; rw [hy198]; with_reducible exact H2_) | (have H2_ := (Option.bind_some _ _).symm.trans H; with_reducible exact H2_) | with_reducible exact H | (rw [hy198]; exact H) | exact H
                                  have Ny198 := Aside0.mk hy198
                                  clear hy198
                                  have H' := Aside0.mk H
                                  clear H
                                  try go_wp2
                                  have n0_ := Aside0.mk (Kd.R_drew HO_6.out)
                                  have n1_ := Aside0.mk (Kd.R_drew HO_7.out)
                                  have n2_ := Aside0.mk (Kd.R_drew HO_8.out)
                                  have n3_ := Aside0.mk (blk_drew BK181.out)
                                  have n4_ := Aside0.mk (blk_drew BK182.out)
                                  have n5_ := Aside0.mk (blk_drew BK183.out)
                                  have n6_ := Aside0.mk (below_drew1 HB.out)
                                  clear HO_6
                                  clear HO_7
                                  clear HO_8
                                  clear BK181
                                  clear BK182
                                  clear BK183
                                  clear HB
                                  have HO_6 := n0_
                                  have HO_7 := n1_
                                  have HO_8 := n2_
                                  have BK181 := n3_
                                  have BK182 := n4_
                                  have BK183 := n5_
                                  have HB := n6_
                                  clear n0_ n1_ n2_ n3_ n4_ n5_ n6_
                                  obtain ⟨Ao51, co51, eo51⟩ := Kd.R_slice HO_8.out
                                  (first | subst eo51 | (injection eo51 with f1_ f2_ f3_; have f4_ := f1_.symm; have f5_ := f3_.symm; clear f1_ f2_ f3_; subst f4_; subst f5_))
                                  have p195 : 0 ≤ ((ji43) : Int) := of_decide_eq_true (by first | (with_reducible assumption) | assumption)
                                  have q195 : (ji43) < (x8_3.length : Int) := of_decide_eq_true (by first | (with_reducible assumption) | assumption)
                                  obtain ⟨ad195, e195, hx195_0⟩ := Kd.at_int (Kd.R_reads' HO_8.out).2.2 (ji43) p195 q195
                                  cases e195
                                  replace p195 := eq_true p195
                                  replace q195 := eq_true q195
                                  have p196 : 0 ≤ (x9_2 : Int) := of_decide_eq_true (by first | (with_reducible assumption) | assumption)
                                  have q196 : x9_2 < (t186.length : Int) := of_decide_eq_true (by first | (with_reducible assumption) | assumption)
                                  obtain ⟨ad196, e196, hx196_0⟩ := Kd.at_int (Kd.R_reads' HO_6.out).2.2 x9_2 p196 q196
                                  cases e196
                                  replace p196 := eq_true p196
                                  replace q196 := eq_true q196
                                  have p197 : 0 ≤ (x10_3 : Int) := of_decide_eq_true (by first | (with_reducible assumption) | assumption)
                                  have q197 : x10_3 < (t189.length : Int) := of_decide_eq_true (by first | (with_reducible assumption) | assumption)
                                  obtain ⟨ad197, e197, hx197_0⟩ := Kd.at_int (Kd.R_reads' HO_7.out).2.2 x10_3 p197 q197
                                  cases e197
                                  replace p197 := eq_true p197
                                  replace q197 := eq_true q197
                                  have p49 : 0 ≤ ((ji43) : Int) := of_decide_eq_true (by first | (with_reducible assumption) | assumption)
                                  have q49 : ((ji43) : Int) < ((x8_3.length : Int) : Int) := of_decide_eq_true (by first | (with_reducible assumption) | assumption)
                                  obtain ⟨go49, co49, eo49, gb49, gl49, cl49, HG49⟩ := Kd.R_form HO_8.out (by omega)
                                  (first | cases eo49 | (injection eo49 with ea_ en_ ec_; (first | subst ea_ | (injection ea_ with ea_; subst ea_)); subst ec_; clear en_))
                                  have GB49 := Aside0.mk gb49
                                  have GG49 := Aside0.mk HG49
                                  clear gb49 gl49 HG49
                                  (first | simp only [add_plain] at hx195_0 | skip)
                                  obtain ⟨hx49_0, hf49_0⟩ := Kd.R_celln 0 HO_8.out ((ji43) : Int) p49 q49
                                  replace p49 := eq_true p49
                                  replace q49 := eq_true q49
                                  have HP52 := Kd.R_putn HO_8.out ((ji43) : Int) (wrap64 ((rd x8_3 (ji43)) + (wrap64 ((wrap64 (rd t186 x9_2)) * (wrap64 (rd t189 x10_3))))))
                                  rw [← Ny198.out] at HP52
                                  have HQ52 := Aside0.mk HP52
                                  clear HP52
                                  refine start_ (n := 24) (S := fun w' => w'.cell? ⟨go49, ((ji43)).toNat, none⟩ = some (.int .i64 (rd x8_3 (ji43))) ∧ w'.cell? (ad196.add (x9_2).toNat) = some (.int .u8 (rd t186 x9_2)) ∧ w'.cell? (ad197.add (x10_3).toNat) = some (.int .u8 (rd t189 x10_3))) (ds := [23]) #[false, false, false, false, false, false, false, false, false, false, false, false, false, false, false, false, false, false, false, false, false, false, false, false] (by kernel_rfl) rfl rfl ⟨hx195_0, hx196_0, hx197_0⟩ (fun hHeld => ?_); refine with_tabW marginaliaref01_Mul.tab12 marginaliaref01_Mul.bits12 (fun HT_ HW_ => ?_)
                                  generalize wr.drew = w50 at HO_6 HO_7 HO_8 BK181 BK182 BK183 HB GG49 HQ52 hf49_0 hx195_0 hx196_0 hx197_0 hx49_0 hHeld ⊢
                                  refine pure_ (i := 0) (N := some 46) (v := ?_) (a' := ?_) #[true, false, false, false, false, false, false, false, false, false, false, false, false, false, false, false, false, false, false, false, false, false, false, false] rfl rfl (any_of HT_.out (by kernel_rfl)) (fun _ _ _ h => h) (Or.inl ⟨by rfl, ?_⟩) ?_ ?_
                                  rotate_left
                                  · intro w'
                                    go_simp
                                    with_reducible rfl
                                  rotate_left
                                  · simp only [Act.put, List.setIfInBounds_toArray, List.set_cons_zero, List.set_cons_succ, i64_w, i32_w]
                                    rfl
                                  refine pure_ (i := 1) (N := some 47) (v := ?_) (a' := ?_) #[true, true, false, false, false, false, false, false, false, false, false, false, false, false, false, false, false, false, false, false, false, false, false, false] rfl rfl (any_of HT_.out (by kernel_rfl)) (fun _ _ _ h => h) (Or.inl ⟨by rfl, ?_⟩) ?_ ?_
                                  rotate_left
                                  · intro w'
                                    go_simp
                                    with_reducible rfl
                                  rotate_left
                                  · simp only [Act.put, List.setIfInBounds_toArray, List.set_cons_zero, List.set_cons_succ, i64_w, i32_w]
                                    rfl
                                  refine pure_ (i := 2) (N := some 48) (v := ?_) (a' := ?_) #[true, true, true, false, false, false, false, false, false, false, false, false, false, false, false, false, false, false, false, false, false, false, false, false] rfl rfl (any_of HT_.out (by kernel_rfl)) (fun _ _ _ h => h) (Or.inl ⟨by rfl, ?_⟩) ?_ ?_
                                  rotate_left
                                  · intro w'
                                    go_simp
                                    with_reducible rfl
                                  rotate_left
                                  · simp only [Act.put, List.setIfInBounds_toArray, List.set_cons_zero, List.set_cons_succ, i64_w, i32_w]
                                    rfl
                                  refine pure_ (i := 3) (N := some 49) (v := ?_) (a' := ?_) #[true, true, true, true, false, false, false, false, false, false, false, false, false, false, false, false, false, false, false, false, false, false, false, false] rfl rfl (any_of HT_.out (by kernel_rfl)) (fun _ _ _ h => h) (Or.inl ⟨by rfl, ?_⟩) ?_ ?_
                                  rotate_left
                                  · intro w'
                                    go_simp
                                    with_reducible rfl
                                  rotate_left
                                  · simp only [Act.put, List.setIfInBounds_toArray, List.set_cons_zero, List.set_cons_succ, i64_w, i32_w]
                                    rfl
                                  refine pure_ (i := 4) (N := some 50) (v := ?_) (a' := ?_) #[true, true, true, true, true, false, false, false, false, false, false, false, false, false, false, false, false, false, false, false, false, false, false, false] rfl rfl (any_of HT_.out (by kernel_rfl)) (fun _ _ _ h => h) (Or.inl ⟨by rfl, ?_⟩) ?_ ?_
                                  rotate_left
                                  · intro w'
                                    go_simp
                                    with_reducible rfl
                                  rotate_left
                                  · simp only [Act.put, List.setIfInBounds_toArray, List.set_cons_zero, List.set_cons_succ, i64_w, i32_w]
                                    rfl
                                  refine pure_ (i := 5) (N := some 51) (v := ?_) (a' := ?_) #[true, true, true, true, true, true, false, false, false, false, false, false, false, false, false, false, false, false, false, false, false, false, false, false] rfl rfl (any_of HT_.out (by kernel_rfl)) (fun _ _ _ h => h) (Or.inl ⟨by rfl, ?_⟩) ?_ ?_
                                  rotate_left
                                  · intro w'
                                    go_simp
                                    with_reducible rfl
                                  rotate_left
                                  · simp only [Act.put, List.setIfInBounds_toArray, List.set_cons_zero, List.set_cons_succ, i64_w, i32_w]
                                    rfl
                                  refine pure_ (i := 6) (N := some 52) (v := ?_) (a' := ?_) #[true, true, true, true, true, true, true, false, false, false, false, false, false, false, false, false, false, false, false, false, false, false, false, false] rfl rfl (any_of HT_.out (by kernel_rfl)) (fun _ _ _ h => h) (Or.inl ⟨by rfl, ?_⟩) ?_ ?_
                                  rotate_left
                                  · intro w'
                                    go_simp
                                    with_reducible rfl
                                  rotate_left
                                  · simp only [Act.put, List.setIfInBounds_toArray, List.set_cons_zero, List.set_cons_succ, i64_w, i32_w]
                                    rfl
                                  refine pure_ (i := 7) (N := some 53) (v := ?_) (a' := ?_) #[true, true, true, true, true, true, true, true, false, false, false, false, false, false, false, false, false, false, false, false, false, false, false, false] rfl rfl (any_of HT_.out (by kernel_rfl)) (fun _ _ _ h => h) (Or.inl ⟨by rfl, ?_⟩) ?_ ?_
                                  rotate_left
                                  · intro w'
                                    go_simp
                                    with_reducible rfl
                                  rotate_left
                                  · simp only [Act.put, List.setIfInBounds_toArray, List.set_cons_zero, List.set_cons_succ, i64_w, i32_w]
                                    rfl
                                  refine pure_ (i := 8) (N := some 54) (v := ?_) (a' := ?_) #[true, true, true, true, true, true, true, true, true, false, false, false, false, false, false, false, false, false, false, false, false, false, false, false] rfl rfl (any_of HT_.out (by kernel_rfl)) (fun _ _ _ h => h) (Or.inl ⟨by rfl, ?_⟩) ?_ ?_
                                  rotate_left
                                  · intro w'
                                    go_simp
                                    with_reducible rfl
                                  rotate_left
                                  · simp only [Act.put, List.setIfInBounds_toArray, List.set_cons_zero, List.set_cons_succ, i64_w, i32_w]
                                    rfl
                                  refine pure_ (i := 10) (N := some 56) (v := ?_) (a' := ?_) #[true, true, true, true, true, true, true, true, true, false, true, false, false, false, false, false, false, false, false, false, false, false, false, false] rfl rfl (any_of HT_.out (by kernel_rfl)) (fun _ _ _ h => h) (Or.inl ⟨by rfl, ?_⟩) ?_ ?_
                                  rotate_left
                                  · intro w'
                                    go_simp
                                    with_reducible rfl
                                  rotate_left
                                  · simp only [Act.put, List.setIfInBounds_toArray, List.set_cons_zero, List.set_cons_succ, i64_w, i32_w]
                                    rfl
                                  refine pure_ (i := 11) (N := some 57) (v := ?_) (a' := ?_) #[true, true, true, true, true, true, true, true, true, false, true, true, false, false, false, false, false, false, false, false, false, false, false, false] rfl rfl (any_of HT_.out (by kernel_rfl)) (fun _ _ _ h => h) (Or.inl ⟨by rfl, ?_⟩) ?_ ?_
                                  rotate_left
                                  · intro w'
                                    go_simp
                                    with_reducible rfl
                                  rotate_left
                                  · simp only [Act.put, List.setIfInBounds_toArray, List.set_cons_zero, List.set_cons_succ, i64_w, i32_w]
                                    rfl
                                  refine pure_ (i := 12) (N := some 58) (v := ?_) (a' := ?_) #[true, true, true, true, true, true, true, true, true, false, true, true, true, false, false, false, false, false, false, false, false, false, false, false] rfl rfl (any_of HT_.out (by kernel_rfl)) (fun _ _ _ h => h) (Or.inl ⟨by rfl, ?_⟩) ?_ ?_
                                  rotate_left
                                  · intro w'
                                    go_simp
                                    with_reducible rfl
                                  rotate_left
                                  · simp only [Act.put, List.setIfInBounds_toArray, List.set_cons_zero, List.set_cons_succ, i64_w, i32_w]
                                    rfl
                                  refine pure_ (i := 15) (N := some 61) (v := ?_) (a' := ?_) #[true, true, true, true, true, true, true, true, true, false, true, true, true, false, false, true, false, false, false, false, false, false, false, false] rfl rfl (any_of HT_.out (by kernel_rfl)) (fun _ _ _ h => h) (Or.inl ⟨by rfl, ?_⟩) ?_ ?_
                                  rotate_left
                                  · intro w'
                                    go_simp
                                    with_reducible rfl
                                  rotate_left
                                  · simp only [Act.put, List.setIfInBounds_toArray, List.set_cons_zero, List.set_cons_succ, i64_w, i32_w]
                                    rfl
                                  refine pure_ (i := 16) (N := some 62) (v := ?_) (a' := ?_) #[true, true, true, true, true, true, true, true, true, false, true, true, true, false, false, true, true, false, false, false, false, false, false, false] rfl rfl (any_of HT_.out (by kernel_rfl)) (fun _ _ _ h => h) (Or.inl ⟨by rfl, ?_⟩) ?_ ?_
                                  rotate_left
                                  · intro w'
                                    go_simp
                                    with_reducible rfl
                                  rotate_left
                                  · simp only [Act.put, List.setIfInBounds_toArray, List.set_cons_zero, List.set_cons_succ, i64_w, i32_w]
                                    rfl
                                  refine pure_ (i := 17) (N := some 63) (v := ?_) (a' := ?_) #[true, true, true, true, true, true, true, true, true, false, true, true, true, false, false, true, true, true, false, false, false, false, false, false] rfl rfl (any_of HT_.out (by kernel_rfl)) (fun _ _ _ h => h) (Or.inl ⟨by rfl, ?_⟩) ?_ ?_
                                  rotate_left
                                  · intro w'
                                    go_simp
                                    with_reducible rfl
                                  rotate_left
                                  · simp only [Act.put, List.setIfInBounds_toArray, List.set_cons_zero, List.set_cons_succ, i64_w, i32_w]
                                    rfl
                                  refine take_ (i := 9) (N := some 55) (v := ?_) (a' := ?_) #[true, true, true, true, true, true, true, true, true, true, true, true, true, false, false, true, true, true, false, false, false, false, false, false] rfl rfl (take_ofW HT_.out HW_.out (by kernel_rfl)) (fun _ _ _ h => h) (Or.inl ⟨by rfl, ?_⟩) hHeld ?_ ?_
                                  rotate_left
                                  · rintro w' ⟨s0, s1, s2⟩
                                    go_simp
                                    with_reducible rfl
                                  rotate_left
                                  · simp only [Act.put, List.setIfInBounds_toArray, List.set_cons_zero, List.set_cons_succ, i64_w, i32_w]
                                    rfl
                                  refine take_ (i := 13) (N := some 59) (v := ?_) (a' := ?_) #[true, true, true, true, true, true, true, true, true, true, true, true, true, true, false, true, true, true, false, false, false, false, false, false] rfl rfl (take_ofW HT_.out HW_.out (by kernel_rfl)) (fun _ _ _ h => h) (Or.inl ⟨by rfl, ?_⟩) hHeld ?_ ?_
                                  rotate_left
                                  · rintro w' ⟨s0, s1, s2⟩
                                    go_simp
                                    with_reducible rfl
                                  rotate_left
                                  · simp only [Act.put, List.setIfInBounds_toArray, List.set_cons_zero, List.set_cons_succ, i64_w, i32_w]
                                    rfl
                                  refine pure_ (i := 14) (N := some 60) (v := ?_) (a' := ?_) #[true, true, true, true, true, true, true, true, true, true, true, true, true, true, true, true, true, true, false, false, false, false, false, false] rfl rfl (any_of HT_.out (by kernel_rfl)) (fun _ _ _ h => h) (Or.inl ⟨by rfl, ?_⟩) ?_ ?_
                                  rotate_left
                                  · intro w'
                                    go_simp
                                    with_reducible rfl
                                  rotate_left
                                  · simp only [Act.put, List.setIfInBounds_toArray, List.set_cons_zero, List.set_cons_succ, i64_w, i32_w]
                                    rfl
                                  refine take_ (i := 18) (N := some 64) (v := ?_) (a' := ?_) #[true, true, true, true, true, true, true, true, true, true, true, true, true, true, true, true, true, true, true, false, false, false, false, false] rfl rfl (take_ofW HT_.out HW_.out (by kernel_rfl)) (fun _ _ _ h => h) (Or.inl ⟨by rfl, ?_⟩) hHeld ?_ ?_
                                  rotate_left
                                  · rintro w' ⟨s0, s1, s2⟩
                                    go_simp
                                    with_reducible rfl
                                  rotate_left
                                  · simp only [Act.put, List.setIfInBounds_toArray, List.set_cons_zero, List.set_cons_succ, i64_w, i32_w]
                                    rfl
                                  refine pure_ (i := 19) (N := some 65) (v := ?_) (a' := ?_) #[true, true, true, true, true, true, true, true, true, true, true, true, true, true, true, true, true, true, true, true, false, false, false, false] rfl rfl (any_of HT_.out (by kernel_rfl)) (fun _ _ _ h => h) (Or.inl ⟨by rfl, ?_⟩) ?_ ?_
                                  rotate_left
                                  · intro w'
                                    go_simp
                                    with_reducible rfl
                                  rotate_left
                                  · simp only [Act.put, List.setIfInBounds_toArray, List.set_cons_zero, List.set_cons_succ, i64_w, i32_w]
                                    rfl
                                  refine pure_ (i := 20) (N := some 66) (v := ?_) (a' := ?_) #[true, true, true, true, true, true, true, true, true, true, true, true, true, true, true, true, true, true, true, true, true, false, false, false] rfl rfl (any_of HT_.out (by kernel_rfl)) (fun _ _ _ h => h) (Or.inl ⟨by rfl, ?_⟩) ?_ ?_
                                  rotate_left
                                  · intro w'
                                    go_simp
                                    with_reducible rfl
                                  rotate_left
                                  · simp only [Act.put, List.setIfInBounds_toArray, List.set_cons_zero, List.set_cons_succ, i64_w, i32_w]
                                    rfl
                                  refine pure_ (i := 21) (N := some 67) (v := ?_) (a' := ?_) #[true, true, true, true, true, true, true, true, true, true, true, true, true, true, true, true, true, true, true, true, true, true, false, false] rfl rfl (any_of HT_.out (by kernel_rfl)) (fun _ _ _ h => h) (Or.inl ⟨by rfl, ?_⟩) ?_ ?_
                                  rotate_left
                                  · intro w'
                                    go_simp
                                    with_reducible rfl
                                  rotate_left
                                  · simp only [Act.put, List.setIfInBounds_toArray, List.set_cons_zero, List.set_cons_succ, i64_w, i32_w]
                                    rfl
                                  refine pure_ (i := 22) (N := some 68) (v := ?_) (a' := ?_) #[true, true, true, true, true, true, true, true, true, true, true, true, true, true, true, true, true, true, true, true, true, true, true, false] rfl rfl (any_of HT_.out (by kernel_rfl)) (fun _ _ _ h => h) (Or.inl ⟨by rfl, ?_⟩) ?_ ?_
                                  rotate_left
                                  · intro w'
                                    go_simp
                                    with_reducible rfl
                                  rotate_left
                                  · simp only [Act.put, List.setIfInBounds_toArray, List.set_cons_zero, List.set_cons_succ, i64_w, i32_w]
                                    rfl
                                  refine last_ (i := 23) (N := none) #[true, true, true, true, true, true, true, true, true, true, true, true, true, true, true, true, true, true, true, true, true, true, true, true] rfl rfl (one_of HT_.out (by kernel_rfl)) (by decide) (fun K hK => ?_)
                                  refine skip_ (w1 := ?_) (by rfl) rfl ?_ ?_
                                  rotate_left
                                  · go_simp
                                    rfl
                                  refine hK.out _ _ ?_
                                  clear hK K
                                  refine done_ (done_of HT_.out (by kernel_rfl)) ?_
                                  try go_wp2
                                  go_roundg k3
                                  case measure => have := HJ2.out; have := HK2.out; have := HK3.out; omega
                                  case rel => exact ⟨(y198), (wrap64 (x10_3 + 1)), (by first | rfl | (simp; done) | (simp [*]; done)), H', ⟨by have := HJ2.out; have := HK2.out; have := HK3.out; omega⟩, ⟨by (with_reducible repeat (first | apply Kd.R_alloc | apply Kd.R_drewN | apply Kd.R_drew)); exact Kd.R_mono (Kd.R_far (p := ⟨go49, ((ji43) : Int).toNat, none⟩) (Kd.R_types HO_6.out GG49.out (by decide)) (fun _ hk => hk.2) (.int .i64 (wrap64 ((rd x8_3 (ji43)) + (wrap64 ((wrap64 (rd t186 x9_2)) * (wrap64 (rd t189 x10_3)))))))) (fun _ hk => hk.1)⟩, ⟨by (with_reducible repeat (first | apply Kd.R_alloc | apply Kd.R_drewN | apply Kd.R_drew)); exact Kd.R_mono (Kd.R_far (p := ⟨go49, ((ji43) : Int).toNat, none⟩) (Kd.R_types HO_7.out GG49.out (by decide)) (fun _ hk => hk.2) (.int .i64 (wrap64 ((rd x8_3 (ji43)) + (wrap64 ((wrap64 (rd t186 x9_2)) * (wrap64 (rd t189 x10_3)))))))) (fun _ hk => hk.1)⟩, ⟨by (with_reducible repeat (first | apply Kd.R_alloc | apply Kd.R_drewN | apply Kd.R_drew)); exact HQ52.out⟩, ⟨by (with_reducible repeat (first | refine blk_drewN ?_ _ | refine blk_drew ?_ | refine blk_alloc ?_ _)); refine blk_far ?_ (by have h_ := Kd.R_ne HO_8.out BK181.out (by decide); intro e_; exact h_ (by rw [e_]; rfl)) _; (with_reducible repeat (first | refine blk_drewN ?_ _ | refine blk_drew ?_ | refine blk_alloc ?_ _)); exact BK181.out⟩, ⟨by (with_reducible repeat (first | refine blk_drewN ?_ _ | refine blk_drew ?_ | refine blk_alloc ?_ _)); refine blk_far ?_ (by have h_ := Kd.R_ne HO_8.out BK182.out (by decide); intro e_; exact h_ (by rw [e_]; rfl)) _; (with_reducible repeat (first | refine blk_drewN ?_ _ | refine blk_drew ?_ | refine blk_alloc ?_ _)); exact BK182.out⟩, ⟨by (with_reducible repeat (first | refine blk_drewN ?_ _ | refine blk_drew ?_ | refine blk_alloc ?_ _)); refine blk_far ?_ (by have h_ := Kd.R_ne HO_8.out BK183.out (by decide); intro e_; exact h_ (by rw [e_]; rfl)) _; (with_reducible repeat (first | refine blk_drewN ?_ _ | refine blk_drew ?_ | refine blk_alloc ?_ _)); exact BK183.out⟩, ⟨by repeat (first | (with_reducible first | exact HB.out | apply below_alloc | apply pw_below_drewN | apply below_drew1 | refine below_set ?_ GB49.out | refine below_set ?_ GE181.out | refine below_set ?_ GE182.out | refine below_set ?_ GE183.out) | exact HB.out)⟩⟩
                                · rw [if_neg c48] at H
                                  exact absurd H (by simp)
                              · rw [if_neg c47] at H
                                exact absurd H (by simp)
                            · rw [if_neg c46] at H
                              exact absurd H (by simp)
                          · rw [if_neg c45] at H
                            exact absurd H (by simp)
                        · rw [if_neg c44] at H
                          exact absurd H (by simp)
                      · rw [if_neg c42] at H
                        have c42b0 : decide (x10_3 < (t189.length : Int)) = false := decide_eq_false c42
                        clear c42
                        have H' := Aside0.mk H
                        clear H
                        go_wp2
                        go_roundg k3
                        case measure => have := HJ2.out; have := HK2.out; have := HK3.out; omega
                        case rel => exact ⟨(x8_3), (wrap64 (x9_2 + 1)), (by first | rfl | (simp; done) | (simp [*]; done)), H', ⟨by have := HJ2.out; have := HK2.out; have := HK3.out; omega⟩, ⟨by (with_reducible repeat (first | apply Kd.R_alloc | apply Kd.R_drewN | apply Kd.R_drew)); exact HO_6.out⟩, ⟨by (with_reducible repeat (first | apply Kd.R_alloc | apply Kd.R_drewN | apply Kd.R_drew)); exact HO_7.out⟩, ⟨by (with_reducible repeat (first | apply Kd.R_alloc | apply Kd.R_drewN | apply Kd.R_drew)); exact HO_8.out⟩, ⟨by (with_reducible repeat (first | refine blk_drewN ?_ _ | refine blk_drew ?_ | refine blk_alloc ?_ _)); exact BK181.out⟩, ⟨by (with_reducible repeat (first | refine blk_drewN ?_ _ | refine blk_drew ?_ | refine blk_alloc ?_ _)); exact BK182.out⟩, ⟨by (with_reducible repeat (first | refine blk_drewN ?_ _ | refine blk_drew ?_ | refine blk_alloc ?_ _)); exact BK183.out⟩, ⟨by repeat (first | (with_reducible first | exact HB.out | apply below_alloc | apply pw_below_drewN | apply below_drew1 | refine below_set ?_ GE181.out | refine below_set ?_ GE182.out | refine below_set ?_ GE183.out) | exact HB.out)⟩⟩
                · rw [if_neg c41] at H
                  have c41b0 : decide (x9_2 < (t186.length : Int)) = false := decide_eq_false c41
                  clear c41
                  have H' := Aside0.mk H
                  clear H
                  go_wp2
                  go_loopg [11, 12, 13] k2 (fun kq v11 v12 v13 w' => ∃ (x11_3 : List Int) (x12_3 : Int) (x13_3 : Int), v12 = .int .i64 x12_3 ∧ v13 = .int .i64 x13_3 ∧ Aside0 (marginaliaref01_Mul.l2 kq x8_2 x11_3 x12_3 x13_3 a0_0 l0_1 a1_0 l1_1 = some (r1, r2, r3)) ∧ Aside0 (kq ≤ k2) ∧ Aside0 (Kd.R (Kd.int .i64) 3 w' w.heap.size (fun _ => True) v193 x8_2) ∧ Aside0 (Kd.R (Kd.int .u8) 5 w' w.heap.size (fun _ => True) v11 x11_3) ∧ Aside0 (w'.heap[gb181]? = some (.cells #[.bool a0_0, (.slice A0_1 l0_1.length c0_1)] 24 (0, 0))) ∧ Aside0 (w'.heap[gb182]? = some (.cells #[.bool a1_0, (.slice A1_1 l1_1.length c1_1)] 24 (0, 0))) ∧ Aside0 (w'.heap[gb183]? = some (.cells #[.bool false, (.slice none 0 0)] 24 (0, 0))) ∧ Aside0 (Below w.heap.size w w'))
                  case atStart => exact ⟨(([] : List Int)), (0), (0), (by first | rfl | (simp; done) | (simp [*]; done)), (by first | rfl | (simp; done) | (simp [*]; done)), H', ⟨Nat.le_refl _⟩, ⟨by (with_reducible repeat (first | apply Kd.R_alloc | apply Kd.R_drewN | apply Kd.R_drew)); exact HO_8.out⟩, ⟨by first | exact Kd.R_nil _ _ _ _ _ | exact Kd.N_nil _ _ _ _ _ | exact Kd.V_nil _ _ _ _ _ | exact Kd.Q_nil _ _ _ _ _ | exact Kd.S_nil _ _ _ _ _⟩, ⟨by (with_reducible repeat (first | refine blk_drewN ?_ _ | refine blk_drew ?_ | refine blk_alloc ?_ _)); exact BK181.out⟩, ⟨by (with_reducible repeat (first | refine blk_drewN ?_ _ | refine blk_drew ?_ | refine blk_alloc ?_ _)); exact BK182.out⟩, ⟨by (with_reducible repeat (first | refine blk_drewN ?_ _ | refine blk_drew ?_ | refine blk_alloc ?_ _)); exact BK183.out⟩, ⟨by repeat (first | (with_reducible first | exact HB.out | apply below_alloc | apply pw_below_drewN | apply below_drew1 | refine below_set ?_ GE181.out | refine below_set ?_ GE182.out | refine below_set ?_ GE183.out) | exact HB.out)⟩⟩
                  case round =>
                    clear H'
                    try clear c1
                    try clear p1
                    try clear q1
                    try clear hx1
                    try clear c2
                    try clear p2
                    try clear c3
                    try clear c4
                    try clear p4
                    try clear q4
                    try clear hx4
                    try clear hf4
                    try clear p6
                    try clear c8
                    try clear c10
                    try clear c11
                    try clear c14
                    try clear c16
                    try clear c17
                    try clear c18
                    try clear p19
                    try clear q19
                    try clear hx19
                    try clear c21
                    try clear c22
                    try clear c23
                    try clear c24
                    try clear c28
                    try clear c28b0
                    try clear c28b1
                    try clear c29
                    try clear c29b0
                    try clear c29b1
                    try clear c30
                    try clear c31
                    try clear c34
                    try clear c40
                    try clear c41
                    try clear c41b0
                    try clear c42
                    try clear c42b0
                    try clear c44
                    try clear c44b0
                    try clear c45
                    try clear c45b0
                    try clear c46
                    try clear c46b0
                    try clear c47
                    try clear c47b0
                    try clear c48
                    try clear c48b0
                    try clear p49
                    try clear q49
                    try clear hx49
                    try clear hf49
                    try clear hcz12_0
                    try clear hcz12_1
                    try clear hcz15_0
                    try clear hcz15_1
                    try clear hcz19_0
                    try clear hcz19_1
                    try clear hcz24_0
                    try clear hcz24_1
                    try clear hcz32_0
                    try clear hcz32_1
                    try clear hcz35_0
                    try clear hcz35_1
                    try clear hfz12_0
                    try clear hfz12_1
                    try clear hfz15_0
                    try clear hfz15_1
                    try clear hfz19_0
                    try clear hfz19_1
                    try clear hfz24_0
                    try clear hfz24_1
                    try clear hfz32_0
                    try clear hfz32_1
                    try clear hfz35_0
                    try clear hfz35_1
                    try clear hx195_0
                    try clear hx196_0
                    try clear hx197_0
                    try clear hx49_0
                    try clear p195
                    try clear p196
                    try clear p197
                    try clear p2
                    try clear p49
                    try clear p6
                    try clear q195
                    try clear q196
                    try clear q197
                    try clear q49
                    obtain ⟨x11_3, x12_3, x13_3, rfl, rfl, HA, HK3, HO_8, HO_11, BK181, BK182, BK183, HB⟩ := hrel
                    cases gk with
                    | zero => exact absurd HA.out (by simp [marginaliaref01_Mul.l2])
                    | succ k3 =>
                      have H := HA.out
                      clear HA
                      simp only [marginaliaref01_Mul.l2] at H
                      by_cases c53 : x13_3 < (x8_2.length : Int)
                      · rw [if_pos c53] at H
                        have c53b0 : decide (x13_3 < (x8_2.length : Int)) = true := decide_eq_true c53
                        clear c53
                        by_cases c54 : 0 ≤ x13_3
                        · rw [if_pos c54] at H
                          have c54b0 : decide (0 ≤ x13_3) = true := decide_eq_true c54
                          clear c54
                          by_cases c55 : x11_3.length < 140737488355328
                          · rw [if_pos c55] at H
                            have LMc55 := Aside0.mk c55
                            clear c55
                            obtain ⟨y200, hy200⟩ : ∃ y_ : List Int, y_ = (x11_3 ++ [(Int.tmod (wrap64 (x12_3 + (rd x8_2 x13_3))) 10) % 256]) := ⟨_, rfl⟩
                            replace H : (marginaliaref01_Mul.l2 k3 x8_2 y200 (wrap64 (Int.tdiv (wrap64 (x12_3 + (rd x8_2 x13_3))) 10)) (wrap64 (x13_3 + 1)) a0_0 l0_1 a1_0 l1_1) = some (r1, r2, r3) := by first | (rw [hy200]; with_reducible exact H) | (have H2_ := (Option.bind_some _ _).symm.trans H; rw [hy200]; with_reducible exact H2_) | (have H2_ := (Option.bind_some _ _).symm.trans H; with_reducible exact H2_) | with_reducible exact H | (rw [hy200]; exact H) | exact H
                            have Ny200 := Aside0.mk hy200
                            clear hy200
                            have H' := Aside0.mk H
                            clear H
                            obtain ⟨Ao56, co56, eo56⟩ := Kd.R_slice HO_8.out
                            subst eo56
                            have p199 : 0 ≤ (x13_3 : Int) := of_decide_eq_true (by first | (with_reducible assumption) | assumption)
                            have q199 : x13_3 < (x8_2.length : Int) := of_decide_eq_true (by first | (with_reducible assumption) | assumption)
                            obtain ⟨ad199, e199, hx199_0⟩ := Kd.at_int (Kd.R_reads' HO_8.out).2.2 x13_3 p199 q199
                            cases e199
                            replace p199 := eq_true p199
                            replace q199 := eq_true q199
                            go_wp2_with (first | ((with_reducible refine gate_builtin (b := .append) (xs := #[.tmp 81, .tmp 85]) rfl ?_); at_builtin; refine Kd.R_append (Kd.int .u8) (w0 := w) w.heap.size rfl (.tmp 81) (.tmp 85) 46 5 (.int .u8 0) 1 rfl Tryd.underlying46 info5 rfl (by decide) (by omega) u11 x11_3 ((Int.tmod (wrap64 (x12_3 + (rd x8_2 x13_3))) 10) % 256) [.int .u8 ((Int.tmod (wrap64 (x12_3 + (rd x8_2 x13_3))) 10) % 256)] (fun _ => True) (fun _ => False) rfl rfl ?aP (fun _ hk => hk.elim) ?aF ?aO ?aB ?aS ?aL ?_; (case aP => exact rfl); (case aB => exact (by repeat (first | (with_reducible first | exact HB.out | apply below_alloc | apply pw_below_drewN | apply below_drew1 | refine below_set ?_ GE181.out | refine below_set ?_ GE182.out | refine below_set ?_ GE183.out) | exact HB.out))); (case aF => exact (fun _ _ => trivial)); (case aO => exact (by (with_reducible repeat (first | apply Kd.R_alloc | apply Kd.R_drewN | apply Kd.R_drew)); exact HO_11.out)); (case aS => exact (below_size (by repeat (first | (with_reducible first | exact HB.out | apply below_alloc | apply pw_below_drewN | apply below_drew1 | refine below_set ?_ GE181.out | refine below_set ?_ GE182.out | refine below_set ?_ GE183.out) | exact HB.out)))); (case aL => have := LMc55.out; omega); intro v201 w57 ho hb hg hat; rw [← Ny200.out] at ho; have n0_ := Aside0.mk (Kd.R_over' (by (with_reducible repeat (first | apply Kd.R_alloc | apply Kd.R_drewN | apply Kd.R_drew)); exact HO_8.out) (Kd.R_typed (by (with_reducible repeat (first | apply Kd.R_alloc | apply Kd.R_drewN | apply Kd.R_drew)); exact HO_11.out)) (by decide) hg); have n1_ := Aside0.mk (blk_grown (g := gb181) (o := .cells #[.bool a0_0, .slice A0_1 l0_1.length c0_1] 24 (0, 0)) (by (with_reducible repeat (first | refine blk_drewN ?_ _ | refine blk_drew ?_ | refine blk_alloc ?_ _)); exact BK181.out) hg (Kd.R_ne HO_11.out BK181.out (by decide))); have n2_ := Aside0.mk (blk_grown (g := gb182) (o := .cells #[.bool a1_0, .slice A1_1 l1_1.length c1_1] 24 (0, 0)) (by (with_reducible repeat (first | refine blk_drewN ?_ _ | refine blk_drew ?_ | refine blk_alloc ?_ _)); exact BK182.out) hg (Kd.R_ne HO_11.out BK182.out (by decide))); have n3_ := Aside0.mk (blk_grown (g := gb183) (o := .cells #[.bool false, .slice none 0 0] 24 (0, 0)) (by (with_reducible repeat (first | refine blk_drewN ?_ _ | refine blk_drew ?_ | refine blk_alloc ?_ _)); exact BK183.out) hg (Kd.R_ne HO_11.out BK183.out (by decide))); have n4_ := Aside0.mk (hb); have n5_ := Aside0.mk (ho); clear HO_8; clear BK181; clear BK182; clear BK183; clear HB; clear HO_11; have HO_8 := n0_; have BK181 := n1_; have BK182 := n2_; have BK183 := n3_; have HB := n4_; have HO202 := n5_; clear n0_ n1_ n2_ n3_ n4_ n5_; clear ho hb hg hat))
                            go_roundg k3
                            case measure => have := HJ2.out; have := HK2.out; have := HK3.out; omega
                            case rel => exact ⟨(y200), (wrap64 (Int.tdiv (wrap64 (x12_3 + (rd x8_2 x13_3))) 10)), (wrap64 (x13_3 + 1)), (by first | rfl | (simp; done) | (simp [*]; done)), (by first | rfl | (simp; done) | (simp [*]; done)), H', ⟨by have := HJ2.out; have := HK2.out; have := HK3.out; omega⟩, ⟨by (with_reducible repeat (first | apply Kd.R_alloc | apply Kd.R_drewN | apply Kd.R_drew)); exact HO_8.out⟩, ⟨by (with_reducible repeat (first | apply Kd.R_alloc | apply Kd.R_drewN | apply Kd.R_drew)); exact HO202.out⟩, ⟨by (with_reducible repeat (first | refine blk_drewN ?_ _ | refine blk_drew ?_ | refine blk_alloc ?_ _)); exact BK181.out⟩, ⟨by (with_reducible repeat (first | refine blk_drewN ?_ _ | refine blk_drew ?_ | refine blk_alloc ?_ _)); exact BK182.out⟩, ⟨by (with_reducible repeat (first | refine blk_drewN ?_ _ | refine blk_drew ?_ | refine blk_alloc ?_ _)); exact BK183.out⟩, ⟨by repeat (first | (with_reducible first | exact HB.out | apply below_alloc | apply pw_below_drewN | apply below_drew1 | refine below_set ?_ GE181.out | refine below_set ?_ GE182.out | refine below_set ?_ GE183.out) | exact HB.out)⟩⟩
                          · rw [if_neg c55] at H
                            exact absurd H (by simp)
                        · rw [if_neg c54] at H
                          exact absurd H (by simp)
                      · rw [if_neg c53] at H
                        have c53b0 : decide (x13_3 < (x8_2.length : Int)) = false := decide_eq_false c53
                        clear c53
                        replace H := Option.bind_eq_some_iff.mp H
                        obtain ⟨⟨t203, t204, t207⟩, A580, H⟩ := H
                        replace H : (some (t203, t204, t207)) = some (r1, r2, r3) := H
                        have A58 := Aside0.mk A580
                        clear A580
                        simp only [Option.some.injEq, Prod.mk.injEq] at H
                        obtain ⟨rfl, rfl, rfl⟩ := H
                        obtain ⟨Ao59, co59, eo59⟩ := Kd.R_slice HO_8.out
                        subst eo59
                        have hnb60 := NB181_182.out
                        have hnc60 := NB182_181.out
                        have hnb61 := NB181_183.out
                        have hnc61 := NB183_181.out
                        have hcz62_0 : wr.cell? ⟨gb181, 0, none⟩ = some (.bool a0_0) := (blk_cell BK181.out 0).trans rfl
                        have hcz62_1 : wr.cell? ⟨gb181, 1, none⟩ = some (.slice A0_1 l0_1.length c0_1) := (blk_cell BK181.out 1).trans rfl
                        have hfz62_0 := blk_frozen BK181.out 0
                        have hfz62_1 := blk_frozen BK181.out 1
                        have hnb63 := NB182_183.out
                        have hnc63 := NB183_182.out
                        have hcz64_0 : wr.cell? ⟨gb182, 0, none⟩ = some (.bool a1_0) := (blk_cell BK182.out 0).trans rfl
                        have hcz64_1 : wr.cell? ⟨gb182, 1, none⟩ = some (.slice A1_1 l1_1.length c1_1) := (blk_cell BK182.out 1).trans rfl
                        have hfz64_0 := blk_frozen BK182.out 0
                        have hfz64_1 := blk_frozen BK182.out 1
                        obtain ⟨Ao65, co65, eo65⟩ := Kd.R_slice HO_11.out
                        subst eo65
                        go_wp2_with (first | ((with_reducible refine gate_callee (f := 41) rfl ?_); refine goesL_ (some 95) rfl rfl Tryd.func41 (by kernel_rfl) rfl #[.bool (a0_0 != a1_0), .slice Ao65 x11_3.length co65] rfl (by (try simp only [List.map_toArray, List.map_cons, List.map_nil]); first | done | rfl | (simp only [List.length_drop, List.length_take]; rfl)) ?_; (with_reducible refine (marginaliaref01_give.calls k3 (a0_0 != a1_0) (fun k_ => some k_ = (.slice Ao65 x11_3.length co65 : Value).ownBlock) (.slice Ao65 x11_3.length co65) x11_3 t203 t204 t207 w _ ?side1 ?side2 A58.out).mono ?_); (case side1 => repeat (first | (with_reducible first | exact HB.out | apply below_alloc | apply pw_below_drewN | apply below_drew1 | refine below_set ?_ GE181.out | refine below_set ?_ GE182.out | refine below_set ?_ GE183.out) | exact HB.out)); (case side2 => exact Kd.R_tight rfl HO_11.out); rintro e w66 ⟨v205, rfl, ho0, hb, hkp⟩; refine ⟨_, rfl, ?_⟩; have n0_ := Aside0.mk (Kd.R_mono (ok' := fun k_ => True) (Kd.R_keptB ((Kd.R_apart' HO_8.out (Kd.R_typed HO_11.out) (by decide))) hkp (fun k_ hk_ hs_ => (hk_.2) hs_)) (fun k_ hk_ => trivial)); have n1_ := Aside0.mk (blk_kept (by (with_reducible repeat (first | refine blk_drewN ?_ _ | refine blk_drew ?_ | refine blk_alloc ?_ _)); exact BK181.out) hkp (fun hs_ => (fun e_ => (Kd.R_ne HO_11.out BK181.out (by decide)) e_) hs_)); have n2_ := Aside0.mk (blk_kept (by (with_reducible repeat (first | refine blk_drewN ?_ _ | refine blk_drew ?_ | refine blk_alloc ?_ _)); exact BK182.out) hkp (fun hs_ => (fun e_ => (Kd.R_ne HO_11.out BK182.out (by decide)) e_) hs_)); have n3_ := Aside0.mk (blk_kept (by (with_reducible repeat (first | refine blk_drewN ?_ _ | refine blk_drew ?_ | refine blk_alloc ?_ _)); exact BK183.out) hkp (fun hs_ => (fun e_ => (Kd.R_ne HO_11.out BK183.out (by decide)) e_) hs_)); have n4_ := Aside0.mk (Kd.R_mono (ok' := fun k_ => True) ho0 (fun k_ hk_ => trivial)); have n5_ := Aside0.mk (hb); clear HO_8; clear BK181; clear BK182; clear BK183; clear HB; clear HO_11; have HO_8 := n0_; have BK181 := n1_; have BK182 := n2_; have BK183 := n3_; have HO206 := n4_; have HB := n5_; clear n0_ n1_ n2_ n3_ n4_ n5_; (try clear hb); (try clear hkp); (try clear ho0); have hcz67_0 : w66.cell? ⟨gb183, 0, none⟩ = some (.bool false) := (blk_cell BK183.out 0).trans rfl; have hcz67_1 : w66.cell? ⟨gb183, 1, none⟩ = some (.slice none 0 0) := (blk_cell BK183.out 1).trans rfl; have hfz67_0 := blk_frozen BK183.out 0; have hfz67_1 := blk_frozen BK183.out 1; obtain ⟨Ao68, co68, eo68⟩ := Kd.R_slice HO206.out; subst eo68))
                        refine bodyPost_ret (results_ct rfl _ _ gb183 24 #[.bool t203, .slice Ao68 t204.length co68] (0, 0) _ rfl (by (with_reducible repeat (first | refine blk_drewN ?_ _ | refine blk_drew ?_ | refine blk_alloc ?_ _)); refine blk_put (cs := #[.bool t203, .slice none 0 0]) ?_ 1 _ rfl; (with_reducible repeat (first | refine blk_drewN ?_ _ | refine blk_drew ?_ | refine blk_alloc ?_ _)); refine blk_put (cs := #[.bool false, .slice none 0 0]) ?_ 0 _ rfl; (with_reducible repeat (first | refine blk_drewN ?_ _ | refine blk_drew ?_ | refine blk_alloc ?_ _)); exact BK183.out) Tryd.underlying24 rfl (by kernel_rfl)) rfl ?_
                        exact ⟨_, by first | rfl | (simp [errW_none, errW_some] <;> rfl) | (simp only [← hji27]; first | rfl | (simp [errW_none, errW_some] <;> rfl)) | (simp [*, errW_none, errW_some] <;> rfl), by (with_reducible repeat (first | apply Kd.R_alloc | apply Kd.R_drewN | apply Kd.R_drew)); exact Kd.R_mono (Kd.R_far (p := ⟨gb183, 1, none⟩) (Kd.R_far (p := ⟨gb183, 0, none⟩) (Kd.R_types HO206.out BK183.out (by decide)) (fun _ hk => hk.2) (.bool t203)) (fun _ hk => hk.2) (.slice Ao68 t204.length co68)) (fun _ hk => trivial), by repeat (first | (with_reducible first | exact HB.out | apply below_alloc | apply pw_below_drewN | apply below_drew1 | refine below_set ?_ GE181.out | refine below_set ?_ GE182.out | refine below_set ?_ GE183.out) | exact HB.out)⟩
          · rw [if_neg c29] at H
            exact absurd H (by simp)
        · rw [if_neg c28] at H
          exact absurd H (by simp)

end Go.Proofs.YtflmioakfboanaaDoor.PNumTimes
