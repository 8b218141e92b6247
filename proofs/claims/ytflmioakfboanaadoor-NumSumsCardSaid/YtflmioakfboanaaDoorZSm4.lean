/-
  Part of a claim: definitions and lemmas that its theorem leans on, packed by wip/tools/pack.py.
-/
import Derived.Test.YtflmioakfboanaaDoorZSm3
set_option linter.unusedVariables false
set_option linter.unusedSimpArgs false
section
namespace Go.Proofs.YtflmioakfboanaaDoor.PNumSums
open Go.Proofs.YtflmioakfboanaaDoor.Sq
open Go.RowKit Go.Proofs.YtflmioakfboanaaDoorW.PrintWords Go.Proofs.YtflmioakfboanaaDoorW.PrintLast Go.Proofs.YtflmioakfboanaaDoorW.PrintMore
set_option linter.unusedVariables false
set_option linter.unusedSimpArgs false
def num_Sub.f (k : Nat) (a0_0 : Bool) (l0_1 : List Int) (a1_0 : Bool) (l1_1 : List Int) : Option (Bool × List Int × Int) := (num_sound.f a0_0 l0_1 a1_0 l1_1).bind fun t329 => (if t329 = true then ((num_neg.f a1_0 l1_1).bind fun bt330 => ((num_Add.f k a0_0 l0_1 bt330.1 bt330.2).bind fun bt334 => (some (bt334.1, bt334.2.1, bt334.2.2)))) else (some (false, ([] : List Int), 2)))
def num_Sub.T3 : Bool × List (List Nat × List Nat) := (true, [([], []), ([], []), ([1], [1]), ([0, 2, 2], [0, 2]), ([3], [3]), ([3], [3]), ([4, 3, 0, 1, 2, 3, 4, 5], [4]), ([5, 6, 0, 1, 2, 3, 4, 5, 6], [5])])
def num_Sub.B3 : List Nat := [0, 0, 2, 7, 15, 15, 63, 127]
theorem num_Sub.tab3 : rtab .any (opsOf Tryd.f20 3) = num_Sub.T3 := by kernel_rfl
theorem num_Sub.bits3 : waitsOk num_Sub.T3.2 num_Sub.B3 = true := by kernel_rfl
set_option maxHeartbeats 8000000 in
set_option maxRecDepth 100000 in
theorem num_Sub.calls (k : Nat) (a0_0 : Bool) (A0_1 : Option Addr) (c0_1 : Nat) (l0_1 : List Int) (a1_0 : Bool) (P1_1_ : Nat → Prop) (u9000_ : Value) (l1_1 : List Int) (r1 : Bool) (r2 : List Int) (r3 : Int) (w0 w : World) (hB : Below w0.heap.size w0 w) (hr0_1 : ∀ W_, Kept w W_ (fun k_ => P1_1_ k_) → Kd.C (Kd.int .u32) W_ A0_1 l0_1.length l0_1) (hc0_1 : l0_1.length ≤ c0_1) (ho1_1 : Kd.R (Kd.int .u32) 48 w w0.heap.size P1_1_ u9000_ l1_1) (h : num_Sub.f k a0_0 l0_1 a1_0 l1_1 = some (r1, r2, r3)) :
    Calls Tryd.prog 20 #[.agg #[.bool a0_0, .slice A0_1 l0_1.length c0_1], .agg #[.bool a1_0, u9000_]] w fun e w' => ∃ v1_ : Value, e = .returned (.tuple #[.agg #[.bool r1, v1_], .int .i64 r3]) ∧ Kd.V (Kd.int .u32) 48 w' w0.heap.size (fun k_ => (P1_1_ k_ ∨ w.heap.size ≤ k_)) v1_ r2 ∧ Below w0.heap.size w0 w' ∧ Kept w w' (fun k_ => P1_1_ k_) := by
  have hu24 := Tryd.underlying24
  have HR0_1 := Aside0.mk hr0_1
  have HC0_1 := Aside0.mk hc0_1
  clear hr0_1 hc0_1
  have HO1_1 := Aside0.mk (show Kd.R (Kd.int .u32) 48 w w0.heap.size (fun k_ => (P1_1_ k_ ∨ w.heap.size ≤ k_)) u9000_ l1_1 from Kd.R_mono ho1_1 (fun k_ hk => (.inl hk)))
  have HK := Aside0.mk (Kept.refl w (fun k_ => P1_1_ k_))
  have HW0 := Aside0.mk hB.size
  have HB := Aside0.mk hB
  clear hB
  have H : ((num_sound.f a0_0 l0_1 a1_0 l1_1).bind fun t329 => (if t329 = true then ((num_neg.f a1_0 l1_1).bind fun bt330 => ((num_Add.f k a0_0 l0_1 bt330.1 bt330.2).bind fun bt334 => (some (bt334.1, bt334.2.1, bt334.2.2)))) else (some (false, ([] : List Int), 2)))) = some (r1, r2, r3) := h
  clear h
  replace H := Option.bind_eq_some_iff.mp H
  obtain ⟨t329, A30, H⟩ := H
  replace H : (if t329 = true then ((num_neg.f a1_0 l1_1).bind fun bt330 => ((num_Add.f k a0_0 l0_1 bt330.1 bt330.2).bind fun bt334 => (some (bt334.1, bt334.2.1, bt334.2.2)))) else (some (false, ([] : List Int), 2))) = some (r1, r2, r3) := H
  have A3 := Aside0.mk A30
  clear A30
  by_cases c4 : t329 = true
  · subst c4
    have H1 : ((num_neg.f a1_0 l1_1).bind fun bt330 => ((num_Add.f k a0_0 l0_1 bt330.1 bt330.2).bind fun bt334 => (some (bt334.1, bt334.2.1, bt334.2.2)))) = some (r1, r2, r3) := by rw [if_pos rfl] at H; exact H
    clear H
    have H := H1
    clear H1
    replace H := Option.bind_eq_some_iff.mp H
    obtain ⟨⟨t330, t331⟩, A50, H⟩ := H
    replace H : ((num_Add.f k a0_0 l0_1 t330 t331).bind fun bt334 => (some (bt334.1, bt334.2.1, bt334.2.2))) = some (r1, r2, r3) := H
    have A5 := Aside0.mk A50
    clear A50
    replace H := Option.bind_eq_some_iff.mp H
    obtain ⟨⟨t334, t335, t338⟩, A60, H⟩ := H
    replace H : (some (t334, t335, t338)) = some (r1, r2, r3) := H
    have A6 := Aside0.mk A60
    clear A60
    simp only [Option.some.injEq, Prod.mk.injEq] at H
    obtain ⟨rfl, rfl, rfl⟩ := H
    go_enter Tryd.func20, Tryd.ntmps20
    try go_wp2_with (first | ((with_reducible refine gate_dst (N := 2) rfl ?_); refine box_event ?hg (N := 2) ?hd (cs := #[.bool a0_0, .slice A0_1 l0_1.length c0_1]) (t := 24) ?hr ?_; (case hd => rfl); (case hg => rfl); (case hr => first | (go_simp; done) | (go_simp; rfl)); intro gb326 hg w7 hbox hb; have n0_ := Aside0.mk (Kd.R_below (kR HO1_1) hb); have n1_ := Aside0.mk (Kept.below (S := (fun k_ => P1_1_ k_)) (by repeat (first | (with_reducible first | exact HK.out | apply Kept.alloc | apply Kept.drewN | apply Kept.drew) | exact HK.out)) hb); have n2_ := Aside0.mk (below_step bw hb); have n3_ := Aside0.mk (hbox); have n4_ := Aside0.mk ((by rw [hg]; exact (by first | exact HK.out.1 | exact (show Kept w _ (fun k_ => P1_1_ k_) from by repeat (first | (with_reducible first | exact HK.out | apply Kept.alloc | apply Kept.drewN | apply Kept.drew) | exact HK.out)).1) : w.heap.size ≤ gb326)); have n5_ := Aside0.mk ((by rw [hg]; exact (below_size bw) : w0.heap.size ≤ gb326)); clear HO1_1 HK HB; have HO1_1 := n0_; have HK := n1_; have HB := n2_; have BK326 := n3_; have GW326 := n4_; have GE326 := n5_; clear n0_ n1_ n2_ n3_ n4_ n5_; clear hb hbox hg; obtain ⟨Ao8, co8, eo8⟩ := Kd.R_slice HO1_1.out; subst eo8) | ((with_reducible refine gate_dst (N := 3) rfl ?_); refine box_event ?hg (N := 3) ?hd (cs := #[.bool a1_0, .slice Ao8 l1_1.length co8]) (t := 24) ?hr ?_; (case hd => rfl); (case hg => rfl); (case hr => first | (go_simp; done) | (go_simp; rfl)); intro gb327 hg w9 hbox hb; have n0_ := Aside0.mk (Kd.R_below (kR HO1_1) hb); have n1_ := Aside0.mk (blk_below (bk BK326) hb); have n2_ := Aside0.mk (Kept.below (S := (fun k_ => P1_1_ k_)) (by repeat (first | (with_reducible first | exact HK.out | apply Kept.alloc | apply Kept.drewN | apply Kept.drew | refine Kept.setCell ?_ (.inr GW326.out) _) | exact HK.out)) hb); have n3_ := Aside0.mk (below_step bw hb); have n4_ := Aside0.mk (hbox); have n5_ := Aside0.mk ((by rw [hg]; exact (by first | exact HK.out.1 | exact (show Kept w _ (fun k_ => P1_1_ k_) from by repeat (first | (with_reducible first | exact HK.out | apply Kept.alloc | apply Kept.drewN | apply Kept.drew | refine Kept.setCell ?_ (.inr GW326.out) _) | exact HK.out)).1) : w.heap.size ≤ gb327)); have n6_ := Aside0.mk ((by rw [hg]; exact (below_size bw) : w0.heap.size ≤ gb327)); have n7_ := Aside0.mk ((neL hg BK326)); have n8_ := Aside0.mk ((neG hg BK326)); clear HO1_1 BK326 HK HB; have HO1_1 := n0_; have BK326 := n1_; have HK := n2_; have HB := n3_; have BK327 := n4_; have GW327 := n5_; have GE327 := n6_; have NB326_327 := n7_; have NB327_326 := n8_; clear n0_ n1_ n2_ n3_ n4_ n5_ n6_ n7_ n8_; clear hb hbox hg) | ((with_reducible refine gate_dst (N := 4) rfl ?_); refine box_event ?hg (N := 4) ?hd (cs := #[.bool false, .slice none 0 0]) (t := 24) ?hr ?_; (case hd => rfl); (case hg => rfl); (case hr => first | (go_simp; done) | (go_simp; rfl)); intro gb328 hg w10 hbox hb; have n0_ := Aside0.mk (Kd.R_below (kR HO1_1) hb); have n1_ := Aside0.mk (blk_below (bk BK326) hb); have n2_ := Aside0.mk (blk_below (bk BK327) hb); have n3_ := Aside0.mk (Kept.below (S := (fun k_ => P1_1_ k_)) (by repeat (first | (with_reducible first | exact HK.out | apply Kept.alloc | apply Kept.drewN | apply Kept.drew | refine Kept.setCell ?_ (.inr GW326.out) _ | refine Kept.setCell ?_ (.inr GW327.out) _) | exact HK.out)) hb); have n4_ := Aside0.mk (below_step bw hb); have n5_ := Aside0.mk (hbox); have n6_ := Aside0.mk ((by rw [hg]; exact (by first | exact HK.out.1 | exact (show Kept w _ (fun k_ => P1_1_ k_) from by repeat (first | (with_reducible first | exact HK.out | apply Kept.alloc | apply Kept.drewN | apply Kept.drew | refine Kept.setCell ?_ (.inr GW326.out) _ | refine Kept.setCell ?_ (.inr GW327.out) _) | exact HK.out)).1) : w.heap.size ≤ gb328)); have n7_ := Aside0.mk ((by rw [hg]; exact (below_size bw) : w0.heap.size ≤ gb328)); have n8_ := Aside0.mk ((neL hg BK326)); have n9_ := Aside0.mk ((neG hg BK326)); have n10_ := Aside0.mk ((neL hg BK327)); have n11_ := Aside0.mk ((neG hg BK327)); clear HO1_1 BK326 BK327 HK HB; have HO1_1 := n0_; have BK326 := n1_; have BK327 := n2_; have HK := n3_; have HB := n4_; have BK328 := n5_; have GW328 := n6_; have GE328 := n7_; have NB326_328 := n8_; have NB328_326 := n9_; have NB327_328 := n10_; have NB328_327 := n11_; clear n0_ n1_ n2_ n3_ n4_ n5_ n6_ n7_ n8_ n9_ n10_ n11_; clear hb hbox hg; have hnb11 := NB326_327.out; have hnc11 := NB327_326.out; have hnb12 := NB326_328.out; have hnc12 := NB328_326.out; have hcz13_0 : w10.cell? ⟨gb326, 0, none⟩ = some (.bool a0_0) := (blk_cell BK326.out 0).trans rfl; have hcz13_1 : w10.cell? ⟨gb326, 1, none⟩ = some (.slice A0_1 l0_1.length c0_1) := (blk_cell BK326.out 1).trans rfl; have hfz13_0 := blk_frozen BK326.out 0; have hfz13_1 := blk_frozen BK326.out 1; have hnb14 := NB327_328.out; have hnc14 := NB328_327.out; have hcz15_0 : w10.cell? ⟨gb327, 0, none⟩ = some (.bool a1_0) := (blk_cell BK327.out 0).trans rfl; have hcz15_1 : w10.cell? ⟨gb327, 1, none⟩ = some (.slice Ao8 l1_1.length co8) := (blk_cell BK327.out 1).trans rfl; have hfz15_0 := blk_frozen BK327.out 0; have hfz15_1 := blk_frozen BK327.out 1) | ((with_reducible refine gate_callee (f := 38) rfl ?_); refine goesL_ (some 8) rfl rfl Tryd.func38 (by kernel_rfl) rfl #[.agg #[.bool a0_0, .slice A0_1 l0_1.length c0_1], .agg #[.bool a1_0, .slice Ao8 l1_1.length co8]] rfl (by (try simp only [List.map_toArray, List.map_cons, List.map_nil]); first | done | rfl | (simp only [List.length_drop, List.length_take]; rfl)) ?_; (with_reducible refine (num_sound.calls a0_0 _ _ l0_1 a1_0 _ _ l1_1 true _ ?side1 ?side2 ?side3 ?side4 A3.out).mono ?_); (case side1 => exact Kd.C_kept_now HR0_1.out (by repeat (first | (with_reducible first | exact HK.out | apply Kept.alloc | apply Kept.drewN | apply Kept.drew | refine Kept.setCell ?_ (.inr GW326.out) _ | refine Kept.setCell ?_ (.inr GW327.out) _ | refine Kept.setCell ?_ (.inr GW328.out) _) | exact HK.out))); (case side2 => exact HC0_1.out); (case side3 => repeat (first | exact (Kd.R_reads' HO1_1.out).2.2 | (with_reducible refine Kd.C_alloc ?_ _) | (with_reducible refine Kd.C_drewN ?_ _) | (with_reducible refine Kd.C_drew ?_))); (case side4 => exact (Kd.R_reads' HO1_1.out).2.1); rintro e w16 ⟨rfl, hb⟩; refine ⟨_, rfl, ?_⟩; have n0_ := Aside0.mk (Kd.R_below (kR HO1_1) hb); have n1_ := Aside0.mk (blk_below (bk BK326) hb); have n2_ := Aside0.mk (blk_below (bk BK327) hb); have n3_ := Aside0.mk (blk_below (bk BK328) hb); have n4_ := Aside0.mk (Kept.below (S := (fun k_ => P1_1_ k_)) (by repeat (first | (with_reducible first | exact HK.out | apply Kept.alloc | apply Kept.drewN | apply Kept.drew | refine Kept.setCell ?_ (.inr GW326.out) _ | refine Kept.setCell ?_ (.inr GW327.out) _ | refine Kept.setCell ?_ (.inr GW328.out) _) | exact HK.out)) hb); have n5_ := Aside0.mk (below_step bw hb); clear HO1_1 BK326 BK327 BK328 HK HB; have HO1_1 := n0_; have BK326 := n1_; have BK327 := n2_; have BK328 := n3_; have HK := n4_; have HB := n5_; clear n0_ n1_ n2_ n3_ n4_ n5_; (try clear hb); (try clear hb2); (try clear hk); (try clear hi)))
    have n0_ := Aside0.mk (Kd.R_drew HO1_1.out)
    have n1_ := Aside0.mk (blk_drew BK326.out)
    have n2_ := Aside0.mk (blk_drew BK327.out)
    have n3_ := Aside0.mk (blk_drew BK328.out)
    have n4_ := Aside0.mk (Kept.drew HK.out)
    have n5_ := Aside0.mk (below_drew1 HB.out)
    clear HO1_1 BK326 BK327 BK328 HK HB
    have HO1_1 := n0_
    have BK326 := n1_
    have BK327 := n2_
    have BK328 := n3_
    have HK := n4_
    have HB := n5_
    clear n0_ n1_ n2_ n3_ n4_ n5_
    refine start_ (n := 8) (S := fun w' => w'.cell? ⟨gb326, 0, none⟩ = some (.bool a0_0) ∧ w'.cell? ⟨gb326, 1, none⟩ = some (.slice A0_1 l0_1.length c0_1) ∧ w'.cell? ⟨gb327, 0, none⟩ = some (.bool a1_0) ∧ w'.cell? ⟨gb327, 1, none⟩ = some (.slice Ao8 l1_1.length co8)) (ds := []) #[false, false, false, false, false, false, false, false] (by kernel_rfl) rfl rfl ⟨(blk_cell BK326.out 0).trans rfl, (blk_cell BK326.out 1).trans rfl, (blk_cell BK327.out 0).trans rfl, (blk_cell BK327.out 1).trans rfl⟩ (fun hHeld => ?_); refine with_tabW num_Sub.tab3 num_Sub.bits3 (fun HT_ HW_ => ?_)
    generalize w16.drew = w17 at HO1_1 BK326 BK327 BK328 HK HB hHeld ⊢
    refine take_ (i := 0) (N := some 11) (v := ?_) (a' := ?_) #[true, false, false, false, false, false, false, false] rfl rfl (take_ofW HT_.out HW_.out (by kernel_rfl)) (fun _ _ _ h => h) (Or.inl ⟨by rfl, ?_⟩) hHeld ?_ ?_
    rotate_left
    · rintro w' ⟨s0, s1, s2, s3⟩
      go_simp
      with_reducible rfl
    rotate_left
    · simp only [Act.put, List.setIfInBounds_toArray, List.set_cons_zero, List.set_cons_succ, i64_w, i32_w]
      rfl
    refine take_ (i := 1) (N := some 12) (v := ?_) (a' := ?_) #[true, true, false, false, false, false, false, false] rfl rfl (take_ofW HT_.out HW_.out (by kernel_rfl)) (fun _ _ _ h => h) (Or.inl ⟨by rfl, ?_⟩) hHeld ?_ ?_
    rotate_left
    · rintro w' ⟨s0, s1, s2, s3⟩
      go_simp
      with_reducible rfl
    rotate_left
    · simp only [Act.put, List.setIfInBounds_toArray, List.set_cons_zero, List.set_cons_succ, i64_w, i32_w]
      rfl
    refine one_ (i := 2) (N := some 13) #[true, true, true, false, false, false, false, false] rfl rfl (one_of HT_.out (by kernel_rfl)) (by decide) (fun K hK => ?_)
    refine goes_ Tryd.func46 (by kernel_rfl) rfl #[.agg #[.bool a1_0, .slice Ao8 l1_1.length co8]] (by rfl) rfl rfl (by (try simp only [List.map_toArray, List.map_cons, List.map_nil]); first | done | rfl | (simp only [List.length_drop, List.length_take]; rfl)) ?_
    with_reducible refine (num_neg.calls a1_0 (fun k_ => some k_ = (.slice Ao8 l1_1.length co8 : Value).ownBlock) (.slice Ao8 l1_1.length co8) l1_1 t330 t331 w0 _ ?side1 ?side2 A5.out).mono ?_
    (case side1 => repeat (first | (with_reducible first | exact HB.out | apply below_alloc | apply pw_below_drewN | apply below_drew1 | refine below_set ?_ GE326.out | refine below_set ?_ GE327.out | refine below_set ?_ GE328.out) | exact HB.out))
    (case side2 => exact Kd.R_tight rfl HO1_1.out)
    rintro e w18 ⟨v332, rfl, ho0, hb, hkp⟩
    refine ⟨_, rfl, ?_⟩
    have n0_ := Aside0.mk (blk_kept (bk BK326) hkp (fun hs_ => (fun e_ => (Kd.R_ne HO1_1.out BK326.out (by decide)) e_) hs_))
    have n1_ := Aside0.mk (blk_kept (bk BK327) hkp (fun hs_ => (fun e_ => (Kd.R_ne HO1_1.out BK327.out (by decide)) e_) hs_))
    have n2_ := Aside0.mk (blk_kept (bk BK328) hkp (fun hs_ => (fun e_ => (Kd.R_ne HO1_1.out BK328.out (by decide)) e_) hs_))
    have n3_ := Aside0.mk (Kd.R_mono (ok' := fun k_ => (P1_1_ k_ ∨ w.heap.size ≤ k_)) ho0 (fun k_ hk_ => Or.elim hk_ (fun hs_ => (HO1_1.out.1 k_ (hs_).symm)) (fun hn_ => (.inr (Nat.le_trans (by first | exact HK.out.1 | exact (show Kept w _ (fun k_ => P1_1_ k_) from by repeat (first | (with_reducible first | exact HK.out | apply Kept.alloc | apply Kept.drewN | apply Kept.drew | refine Kept.setCell ?_ (.inr GW326.out) _ | refine Kept.setCell ?_ (.inr GW327.out) _ | refine Kept.setCell ?_ (.inr GW328.out) _) | exact HK.out)).1) hn_)))))
    have n4_ := Aside0.mk (Kept.then_ (S := (fun k_ => P1_1_ k_)) (by repeat (first | (with_reducible first | exact HK.out | apply Kept.alloc | apply Kept.drewN | apply Kept.drew | refine Kept.setCell ?_ (.inr GW326.out) _ | refine Kept.setCell ?_ (.inr GW327.out) _ | refine Kept.setCell ?_ (.inr GW328.out) _) | exact HK.out)) hkp (fun k_ hs_ => (fun e_ => (HO1_1.out.1 k_ e_.symm)) hs_))
    have n5_ := Aside0.mk (hb)
    clear BK326 BK327 BK328 HK HB HO1_1
    have BK326 := n0_
    have BK327 := n1_
    have BK328 := n2_
    have HO333 := n3_
    have HK := n4_
    have HB := n5_
    clear n0_ n1_ n2_ n3_ n4_ n5_
    (try clear hb)
    (try clear hkp)
    (try clear ho0)
    obtain ⟨Ao19, co19, eo19⟩ := Kd.R_slice HO333.out
    (first | subst eo19 | (injection eo19 with f1_ f2_ f3_; have f4_ := f1_.symm; have f5_ := f3_.symm; clear f1_ f2_ f3_; subst f4_; subst f5_))
    refine hK.out _ _ ⟨(blk_cell BK326.out 0).trans rfl, (blk_cell BK326.out 1).trans rfl, (blk_cell BK327.out 0).trans rfl, (blk_cell BK327.out 1).trans rfl⟩ (fun hHeld => ?_)
    clear hK K
    refine norm_ (a' := ?_) ?_ ?_
    rotate_left
    · show Act.put _ (some 13) _ = _
      simp only [Act.put, List.setIfInBounds_toArray, List.set_cons_zero, List.set_cons_succ, i64_w, i32_w]
      rfl
    refine one_ (i := 3) (N := some 14) #[true, true, true, true, false, false, false, false] rfl rfl (one_of HT_.out (by kernel_rfl)) (by decide) (fun K hK => ?_)
    refine goes_ Tryd.func18 (by kernel_rfl) rfl #[.agg #[.bool a0_0, .slice A0_1 l0_1.length c0_1], .agg #[.bool t330, .slice Ao19 t331.length co19]] (by rfl) rfl rfl (by (try simp only [List.map_toArray, List.map_cons, List.map_nil]); first | done | rfl | (simp only [List.length_drop, List.length_take]; rfl)) ?_
    with_reducible refine (num_Add.calls k a0_0 _ _ l0_1 t330 _ _ t331 t334 t335 t338 _ ?side1 ?side2 ?side3 ?side4 A6.out).mono ?_
    (case side1 => exact Kd.C_kept_now HR0_1.out (by repeat (first | (with_reducible first | exact HK.out | apply Kept.alloc | apply Kept.drewN | apply Kept.drew | refine Kept.setCell ?_ (.inr GW326.out) _ | refine Kept.setCell ?_ (.inr GW327.out) _ | refine Kept.setCell ?_ (.inr GW328.out) _) | exact HK.out)))
    (case side2 => exact HC0_1.out)
    (case side3 => repeat (first | exact (Kd.R_reads' HO333.out).2.2 | (with_reducible refine Kd.C_alloc ?_ _) | (with_reducible refine Kd.C_drewN ?_ _) | (with_reducible refine Kd.C_drew ?_)))
    (case side4 => exact (Kd.R_reads' HO333.out).2.1)
    rintro e w20 ⟨v336, rfl, ho0, hb⟩
    refine ⟨_, rfl, ?_⟩
    have n0_ := Aside0.mk (Kd.R_below (kR HO333) hb)
    have n1_ := Aside0.mk (Kd.V_lower (Kd.V_mono (ok' := fun k_ => (P1_1_ k_ ∨ w.heap.size ≤ k_) ∧ some k_ ≠ (.slice Ao19 t331.length co19 : Value).ownBlock ∧ k_ ≠ gb326 ∧ k_ ≠ gb327 ∧ k_ ≠ gb328) ho0 (fun k_ hk_ => ⟨(.inr (Nat.le_trans (by first | exact HK.out.1 | exact (show Kept w _ (fun k_ => P1_1_ k_) from by repeat (first | (with_reducible first | exact HK.out | apply Kept.alloc | apply Kept.drewN | apply Kept.drew | refine Kept.setCell ?_ (.inr GW326.out) _ | refine Kept.setCell ?_ (.inr GW327.out) _ | refine Kept.setCell ?_ (.inr GW328.out) _) | exact HK.out)).1) hk_)), (Kd.fresh' (Kd.R_lt (kR HO333)) k_ hk_), (Kd.freshB (bk BK326) k_ hk_), (Kd.freshB (bk BK327) k_ hk_), (Kd.freshB (bk BK328) k_ hk_)⟩)) (below_size bw))
    have n2_ := Aside0.mk (blk_below (bk BK326) hb)
    have n3_ := Aside0.mk (blk_below (bk BK327) hb)
    have n4_ := Aside0.mk (blk_below (bk BK328) hb)
    have n5_ := Aside0.mk (Kept.below (S := (fun k_ => P1_1_ k_)) (by repeat (first | (with_reducible first | exact HK.out | apply Kept.alloc | apply Kept.drewN | apply Kept.drew | refine Kept.setCell ?_ (.inr GW326.out) _ | refine Kept.setCell ?_ (.inr GW327.out) _ | refine Kept.setCell ?_ (.inr GW328.out) _) | exact HK.out)) hb)
    have n6_ := Aside0.mk (below_step bw hb)
    clear HO333 BK326 BK327 BK328 HK HB
    have HO333 := n0_
    have HO337 := n1_
    have BK326 := n2_
    have BK327 := n3_
    have BK328 := n4_
    have HK := n5_
    have HB := n6_
    clear n0_ n1_ n2_ n3_ n4_ n5_ n6_
    (try clear hb)
    (try clear hb2)
    (try clear hk)
    (try clear hi)
    (try clear ho0)
    obtain ⟨Ao22, co22, eo22⟩ := Kd.V_slice HO337.out
    (first | subst eo22 | (injection eo22 with f1_ f2_ f3_; have f4_ := f1_.symm; have f5_ := f3_.symm; clear f1_ f2_ f3_; subst f4_; subst f5_))
    refine hK.out _ _ ⟨(blk_cell BK326.out 0).trans rfl, (blk_cell BK326.out 1).trans rfl, (blk_cell BK327.out 0).trans rfl, (blk_cell BK327.out 1).trans rfl⟩ (fun hHeld => ?_)
    clear hK K
    refine norm_ (a' := ?_) ?_ ?_
    rotate_left
    · show Act.put _ (some 14) _ = _
      simp only [Act.put, List.setIfInBounds_toArray, List.set_cons_zero, List.set_cons_succ, i64_w, i32_w]
      rfl
    refine pure_ (i := 4) (N := some 15) (v := ?_) (a' := ?_) #[true, true, true, true, true, false, false, false] rfl rfl (any_of HT_.out (by kernel_rfl)) (fun _ _ _ h => h) (Or.inl ⟨by rfl, ?_⟩) ?_ ?_
    rotate_left
    · intro w'
      go_simp
      with_reducible rfl
    rotate_left
    · simp only [Act.put, List.setIfInBounds_toArray, List.set_cons_zero, List.set_cons_succ, i64_w, i32_w]
      rfl
    refine pure_ (i := 5) (N := some 16) (v := ?_) (a' := ?_) #[true, true, true, true, true, true, false, false] rfl rfl (any_of HT_.out (by kernel_rfl)) (fun _ _ _ h => h) (Or.inl ⟨by rfl, ?_⟩) ?_ ?_
    rotate_left
    · intro w'
      go_simp
      with_reducible rfl
    rotate_left
    · simp only [Act.put, List.setIfInBounds_toArray, List.set_cons_zero, List.set_cons_succ, i64_w, i32_w]
      rfl
    refine one_ (i := 6) (N := none) #[true, true, true, true, true, true, true, false] rfl rfl (one_of HT_.out (by kernel_rfl)) (by decide) (fun K hK => ?_)
    have hs21 : w20.cell? ⟨gb328, 0, none⟩ = some (.bool false) := (blk_cell BK328.out 0).trans rfl
    have hfs21 := blk_frozen BK328.out 0
    have hns21_0 := NB326_328.out
    have hns21_1 := NB327_328.out
    have hms21_0 := NB328_326.out
    have hms21_1 := NB328_327.out
    have hs23 : w20.cell? ⟨gb328, 1, none⟩ = some (.slice none 0 0) := (blk_cell BK328.out 1).trans rfl
    have hfs23 := blk_frozen BK328.out 1
    have hns23_0 := NB326_328.out
    have hns23_1 := NB327_328.out
    have hms23_0 := NB328_326.out
    have hms23_1 := NB328_327.out
    refine skip_ (w1 := ?_) (by rfl) rfl ?_ ?_
    rotate_left
    · go_simp
      rfl
    refine hK.out _ _ ⟨((cell_far (p := ⟨gb328, _, none⟩) NB326_328.out _).trans (((cell_far (p := ⟨gb328, _, none⟩) NB326_328.out _).trans (hHeld.1)))), ((cell_far (p := ⟨gb328, _, none⟩) NB326_328.out _).trans (((cell_far (p := ⟨gb328, _, none⟩) NB326_328.out _).trans (hHeld.2.1)))), ((cell_far (p := ⟨gb328, _, none⟩) NB327_328.out _).trans (((cell_far (p := ⟨gb328, _, none⟩) NB327_328.out _).trans (hHeld.2.2.1)))), ((cell_far (p := ⟨gb328, _, none⟩) NB327_328.out _).trans (((cell_far (p := ⟨gb328, _, none⟩) NB327_328.out _).trans (hHeld.2.2.2))))⟩ (fun hHeld => ?_)
    clear hK K
    refine pure_ (i := 7) (N := some 5) (v := ?_) (a' := ?_) #[true, true, true, true, true, true, true, true] rfl rfl (any_of HT_.out (by kernel_rfl)) (fun _ _ _ h => h) (Or.inl ⟨by rfl, ?_⟩) ?_ ?_
    rotate_left
    · intro w'
      go_simp
      with_reducible rfl
    rotate_left
    · simp only [Act.put, List.setIfInBounds_toArray, List.set_cons_zero, List.set_cons_succ, i64_w, i32_w]
      rfl
    refine done_ (done_of HT_.out (by kernel_rfl)) ?_
    try go_wp2
    refine bodyPost_ret (results_ct rfl _ _ gb328 24 #[.bool t334, .slice Ao22 t335.length co22] (0, 0) _ rfl (by (with_reducible repeat (first | refine blk_drewN ?_ _ | refine blk_drew ?_ | refine blk_alloc ?_ _)); refine blk_put (cs := #[.bool t334, .slice none 0 0]) ?_ 1 _ rfl; (with_reducible repeat (first | refine blk_drewN ?_ _ | refine blk_drew ?_ | refine blk_alloc ?_ _)); refine blk_put (cs := #[.bool false, .slice none 0 0]) ?_ 0 _ rfl; (with_reducible repeat (first | refine blk_drewN ?_ _ | refine blk_drew ?_ | refine blk_alloc ?_ _)); exact BK328.out) Tryd.underlying24 rfl (by kernel_rfl)) rfl ?_
    exact ⟨_, by first | rfl | (simp [errW_none, errW_some] <;> rfl) | (simp [*, errW_none, errW_some] <;> rfl), by (with_reducible repeat (first | apply Kd.V_alloc | apply Kd.V_drewN | apply Kd.V_drew)); exact Kd.V_mono (Kd.V_far (p := ⟨gb328, 1, none⟩) (Kd.V_far (p := ⟨gb328, 0, none⟩) (Kd.V_mono HO337.out (fun k_ hk => (⟨hk, hk.2.2.2.2⟩ : _ ∧ k_ ≠ gb328))) (fun _ hk => hk.2) (.bool t334)) (fun _ hk => hk.2) (.slice Ao22 t335.length co22)) (fun _ hk => hk.1.1), bw, by repeat (first | (with_reducible first | exact HK.out | apply Kept.alloc | apply Kept.drewN | apply Kept.drew | refine Kept.setCell ?_ (.inr GW326.out) _ | refine Kept.setCell ?_ (.inr GW327.out) _ | refine Kept.setCell ?_ (.inr GW328.out) _) | exact HK.out)⟩
  · replace c4 := Bool.eq_false_iff.mpr c4
    subst c4
    have H1 : (some (false, ([] : List Int), 2)) = some (r1, r2, r3) := by rw [if_neg (show ¬ (false = true) by decide)] at H; exact H
    clear H
    have H := H1
    clear H1
    simp only [Option.some.injEq, Prod.mk.injEq] at H
    obtain ⟨rfl, rfl, rfl⟩ := H
    go_enter Tryd.func20, Tryd.ntmps20
    go_wp2_with (first | ((with_reducible refine gate_dst (N := 2) rfl ?_); refine box_event ?hg (N := 2) ?hd (cs := #[.bool a0_0, .slice A0_1 l0_1.length c0_1]) (t := 24) ?hr ?_; (case hd => rfl); (case hg => rfl); (case hr => first | (go_simp; done) | (go_simp; rfl)); intro gb326 hg w24 hbox hb; have n0_ := Aside0.mk (Kd.R_below (kR HO1_1) hb); have n1_ := Aside0.mk (Kept.below (S := (fun k_ => P1_1_ k_)) (by repeat (first | (with_reducible first | exact HK.out | apply Kept.alloc | apply Kept.drewN | apply Kept.drew) | exact HK.out)) hb); have n2_ := Aside0.mk (below_step bw hb); have n3_ := Aside0.mk (hbox); have n4_ := Aside0.mk ((by rw [hg]; exact (by first | exact HK.out.1 | exact (show Kept w _ (fun k_ => P1_1_ k_) from by repeat (first | (with_reducible first | exact HK.out | apply Kept.alloc | apply Kept.drewN | apply Kept.drew) | exact HK.out)).1) : w.heap.size ≤ gb326)); have n5_ := Aside0.mk ((by rw [hg]; exact (below_size bw) : w0.heap.size ≤ gb326)); clear HO1_1 HK HB; have HO1_1 := n0_; have HK := n1_; have HB := n2_; have BK326 := n3_; have GW326 := n4_; have GE326 := n5_; clear n0_ n1_ n2_ n3_ n4_ n5_; clear hb hbox hg; obtain ⟨Ao25, co25, eo25⟩ := Kd.R_slice HO1_1.out; subst eo25) | ((with_reducible refine gate_dst (N := 3) rfl ?_); refine box_event ?hg (N := 3) ?hd (cs := #[.bool a1_0, .slice Ao25 l1_1.length co25]) (t := 24) ?hr ?_; (case hd => rfl); (case hg => rfl); (case hr => first | (go_simp; done) | (go_simp; rfl)); intro gb327 hg w26 hbox hb; have n0_ := Aside0.mk (Kd.R_below (kR HO1_1) hb); have n1_ := Aside0.mk (blk_below (bk BK326) hb); have n2_ := Aside0.mk (Kept.below (S := (fun k_ => P1_1_ k_)) (by repeat (first | (with_reducible first | exact HK.out | apply Kept.alloc | apply Kept.drewN | apply Kept.drew | refine Kept.setCell ?_ (.inr GW326.out) _) | exact HK.out)) hb); have n3_ := Aside0.mk (below_step bw hb); have n4_ := Aside0.mk (hbox); have n5_ := Aside0.mk ((by rw [hg]; exact (by first | exact HK.out.1 | exact (show Kept w _ (fun k_ => P1_1_ k_) from by repeat (first | (with_reducible first | exact HK.out | apply Kept.alloc | apply Kept.drewN | apply Kept.drew | refine Kept.setCell ?_ (.inr GW326.out) _) | exact HK.out)).1) : w.heap.size ≤ gb327)); have n6_ := Aside0.mk ((by rw [hg]; exact (below_size bw) : w0.heap.size ≤ gb327)); have n7_ := Aside0.mk ((neL hg BK326)); have n8_ := Aside0.mk ((neG hg BK326)); clear HO1_1 BK326 HK HB; have HO1_1 := n0_; have BK326 := n1_; have HK := n2_; have HB := n3_; have BK327 := n4_; have GW327 := n5_; have GE327 := n6_; have NB326_327 := n7_; have NB327_326 := n8_; clear n0_ n1_ n2_ n3_ n4_ n5_ n6_ n7_ n8_; clear hb hbox hg) | ((with_reducible refine gate_dst (N := 4) rfl ?_); refine box_event ?hg (N := 4) ?hd (cs := #[.bool false, .slice none 0 0]) (t := 24) ?hr ?_; (case hd => rfl); (case hg => rfl); (case hr => first | (go_simp; done) | (go_simp; rfl)); intro gb328 hg w27 hbox hb; have n0_ := Aside0.mk (Kd.R_below (kR HO1_1) hb); have n1_ := Aside0.mk (blk_below (bk BK326) hb); have n2_ := Aside0.mk (blk_below (bk BK327) hb); have n3_ := Aside0.mk (Kept.below (S := (fun k_ => P1_1_ k_)) (by repeat (first | (with_reducible first | exact HK.out | apply Kept.alloc | apply Kept.drewN | apply Kept.drew | refine Kept.setCell ?_ (.inr GW326.out) _ | refine Kept.setCell ?_ (.inr GW327.out) _) | exact HK.out)) hb); have n4_ := Aside0.mk (below_step bw hb); have n5_ := Aside0.mk (hbox); have n6_ := Aside0.mk ((by rw [hg]; exact (by first | exact HK.out.1 | exact (show Kept w _ (fun k_ => P1_1_ k_) from by repeat (first | (with_reducible first | exact HK.out | apply Kept.alloc | apply Kept.drewN | apply Kept.drew | refine Kept.setCell ?_ (.inr GW326.out) _ | refine Kept.setCell ?_ (.inr GW327.out) _) | exact HK.out)).1) : w.heap.size ≤ gb328)); have n7_ := Aside0.mk ((by rw [hg]; exact (below_size bw) : w0.heap.size ≤ gb328)); have n8_ := Aside0.mk ((neL hg BK326)); have n9_ := Aside0.mk ((neG hg BK326)); have n10_ := Aside0.mk ((neL hg BK327)); have n11_ := Aside0.mk ((neG hg BK327)); clear HO1_1 BK326 BK327 HK HB; have HO1_1 := n0_; have BK326 := n1_; have BK327 := n2_; have HK := n3_; have HB := n4_; have BK328 := n5_; have GW328 := n6_; have GE328 := n7_; have NB326_328 := n8_; have NB328_326 := n9_; have NB327_328 := n10_; have NB328_327 := n11_; clear n0_ n1_ n2_ n3_ n4_ n5_ n6_ n7_ n8_ n9_ n10_ n11_; clear hb hbox hg; have hnb28 := NB326_327.out; have hnc28 := NB327_326.out; have hnb29 := NB326_328.out; have hnc29 := NB328_326.out; have hcz30_0 : w27.cell? ⟨gb326, 0, none⟩ = some (.bool a0_0) := (blk_cell BK326.out 0).trans rfl; have hcz30_1 : w27.cell? ⟨gb326, 1, none⟩ = some (.slice A0_1 l0_1.length c0_1) := (blk_cell BK326.out 1).trans rfl; have hfz30_0 := blk_frozen BK326.out 0; have hfz30_1 := blk_frozen BK326.out 1; have hnb31 := NB327_328.out; have hnc31 := NB328_327.out; have hcz32_0 : w27.cell? ⟨gb327, 0, none⟩ = some (.bool a1_0) := (blk_cell BK327.out 0).trans rfl; have hcz32_1 : w27.cell? ⟨gb327, 1, none⟩ = some (.slice Ao25 l1_1.length co25) := (blk_cell BK327.out 1).trans rfl; have hfz32_0 := blk_frozen BK327.out 0; have hfz32_1 := blk_frozen BK327.out 1) | ((with_reducible refine gate_callee (f := 38) rfl ?_); refine goesL_ (some 8) rfl rfl Tryd.func38 (by kernel_rfl) rfl #[.agg #[.bool a0_0, .slice A0_1 l0_1.length c0_1], .agg #[.bool a1_0, .slice Ao25 l1_1.length co25]] rfl (by (try simp only [List.map_toArray, List.map_cons, List.map_nil]); first | done | rfl | (simp only [List.length_drop, List.length_take]; rfl)) ?_; (with_reducible refine (num_sound.calls a0_0 _ _ l0_1 a1_0 _ _ l1_1 false _ ?side1 ?side2 ?side3 ?side4 A3.out).mono ?_); (case side1 => exact Kd.C_kept_now HR0_1.out (by repeat (first | (with_reducible first | exact HK.out | apply Kept.alloc | apply Kept.drewN | apply Kept.drew | refine Kept.setCell ?_ (.inr GW326.out) _ | refine Kept.setCell ?_ (.inr GW327.out) _ | refine Kept.setCell ?_ (.inr GW328.out) _) | exact HK.out))); (case side2 => exact HC0_1.out); (case side3 => repeat (first | exact (Kd.R_reads' HO1_1.out).2.2 | (with_reducible refine Kd.C_alloc ?_ _) | (with_reducible refine Kd.C_drewN ?_ _) | (with_reducible refine Kd.C_drew ?_))); (case side4 => exact (Kd.R_reads' HO1_1.out).2.1); rintro e w33 ⟨rfl, hb⟩; refine ⟨_, rfl, ?_⟩; have n0_ := Aside0.mk (Kd.R_below (kR HO1_1) hb); have n1_ := Aside0.mk (blk_below (bk BK326) hb); have n2_ := Aside0.mk (blk_below (bk BK327) hb); have n3_ := Aside0.mk (blk_below (bk BK328) hb); have n4_ := Aside0.mk (Kept.below (S := (fun k_ => P1_1_ k_)) (by repeat (first | (with_reducible first | exact HK.out | apply Kept.alloc | apply Kept.drewN | apply Kept.drew | refine Kept.setCell ?_ (.inr GW326.out) _ | refine Kept.setCell ?_ (.inr GW327.out) _ | refine Kept.setCell ?_ (.inr GW328.out) _) | exact HK.out)) hb); have n5_ := Aside0.mk (below_step bw hb); clear HO1_1 BK326 BK327 BK328 HK HB; have HO1_1 := n0_; have BK326 := n1_; have BK327 := n2_; have BK328 := n3_; have HK := n4_; have HB := n5_; clear n0_ n1_ n2_ n3_ n4_ n5_; (try clear hb); (try clear hb2); (try clear hk); (try clear hi); have hcz34_0 : w33.cell? ⟨gb328, 0, none⟩ = some (.bool false) := (blk_cell BK328.out 0).trans rfl; have hcz34_1 : w33.cell? ⟨gb328, 1, none⟩ = some (.slice none 0 0) := (blk_cell BK328.out 1).trans rfl; have hfz34_0 := blk_frozen BK328.out 0; have hfz34_1 := blk_frozen BK328.out 1))
    refine bodyPost_ret (results_ct rfl _ _ gb328 24 #[.bool false, .slice none 0 0] (0, 0) _ rfl (by (with_reducible repeat (first | refine blk_drewN ?_ _ | refine blk_drew ?_ | refine blk_alloc ?_ _)); refine blk_put (cs := #[.bool false, .slice none 0 0]) ?_ 1 _ rfl; (with_reducible repeat (first | refine blk_drewN ?_ _ | refine blk_drew ?_ | refine blk_alloc ?_ _)); refine blk_put (cs := #[.bool false, .slice none 0 0]) ?_ 0 _ rfl; (with_reducible repeat (first | refine blk_drewN ?_ _ | refine blk_drew ?_ | refine blk_alloc ?_ _)); exact BK328.out) Tryd.underlying24 rfl (by kernel_rfl)) rfl ?_
    exact ⟨_, by first | rfl | (simp [errW_none, errW_some] <;> rfl) | (simp [*, errW_none, errW_some] <;> rfl), Kd.V_nil _ _ _ _ _, bw, by repeat (first | (with_reducible first | exact HK.out | apply Kept.alloc | apply Kept.drewN | apply Kept.drew | refine Kept.setCell ?_ (.inr GW326.out) _ | refine Kept.setCell ?_ (.inr GW327.out) _ | refine Kept.setCell ?_ (.inr GW328.out) _) | exact HK.out)⟩
def marginaliaref01_Sub.j0 : Nat → Bool → Bool → List Int → Bool → List Int → Option (Bool × List Int × Int)
  | 0, _, _, _, _, _ => none
  | k + 1, x15, x340000, x340001, x341000, x341001 => if x15 = true then (some (false, ([] : List Int), 2)) else ((marginaliaref01_Digits.f k x340000 x340001).bind fun t344 => ((marginaliaref01_Digits.f k x341000 x341001).bind fun t347 => ((marginaliaref01_sum.f k x340000 t344 (!x341000) t347).bind fun bt350 => ((marginaliaref01_give.f k bt350.1 bt350.2).bind fun bt354 => (some (bt354.1, bt354.2.1, bt354.2.2))))))
def marginaliaref01_Sub.f (k : Nat) (a0_0 : Bool) (l0_1 : List Int) (a1_0 : Bool) (l1_1 : List Int) : Option (Bool × List Int × Int) := (marginaliaref01_Sound.f k a0_0 l0_1).bind fun t342 => (if t342 = true then ((marginaliaref01_Sound.f k a1_0 l1_1).bind fun t343 => (marginaliaref01_Sub.j0 k (!t343) a0_0 l0_1 a1_0 l1_1)) else (marginaliaref01_Sub.j0 k true a0_0 l0_1 a1_0 l1_1))
def marginaliaref01_Sub.T3 : Bool × List (List Nat × List Nat) := (true, [([], []), ([0], [0]), ([], []), ([2], [2]), ([], []), ([4], [4]), ([5], [5]), ([], []), ([7, 3], [7]), ([1, 3, 6, 8, 8], [1, 3, 6, 8]), ([9], [9]), ([10], [10]), ([10], [10]), ([11, 9, 0, 1, 2, 3, 4, 5, 6, 7, 8, 9, 10, 11], [11]), ([12, 13, 0, 1, 2, 3, 4, 5, 6, 7, 8, 9, 10, 11, 12, 13], [12])])
def marginaliaref01_Sub.B3 : List Nat := [0, 1, 0, 4, 0, 16, 48, 0, 140, 511, 1023, 2047, 2047, 4095, 16383]
theorem marginaliaref01_Sub.tab3 : rtab .any (opsOf Tryd.f21 3) = marginaliaref01_Sub.T3 := by kernel_rfl
theorem marginaliaref01_Sub.bits3 : waitsOk marginaliaref01_Sub.T3.2 marginaliaref01_Sub.B3 = true := by kernel_rfl
set_option maxHeartbeats 8000000 in
set_option maxRecDepth 100000 in
theorem marginaliaref01_Sub.calls (k : Nat) (a0_0 : Bool) (A0_1 : Option Addr) (c0_1 : Nat) (l0_1 : List Int) (a1_0 : Bool) (A1_1 : Option Addr) (c1_1 : Nat) (l1_1 : List Int) (r1 : Bool) (r2 : List Int) (r3 : Int) (w : World) (hr0_1 : Kd.C (Kd.int .u32) w A0_1 l0_1.length l0_1) (hc0_1 : l0_1.length ≤ c0_1) (hr1_1 : Kd.C (Kd.int .u32) w A1_1 l1_1.length l1_1) (hc1_1 : l1_1.length ≤ c1_1) (h : marginaliaref01_Sub.f k a0_0 l0_1 a1_0 l1_1 = some (r1, r2, r3)) :
    Calls Tryd.prog 21 #[.agg #[.bool a0_0, .slice A0_1 l0_1.length c0_1], .agg #[.bool a1_0, .slice A1_1 l1_1.length c1_1]] w fun e w' => ∃ v1_ : Value, e = .returned (.tuple #[.agg #[.bool r1, v1_], .int .i64 r3]) ∧ Kd.R (Kd.int .u32) 48 w' w.heap.size (fun _ => True) v1_ r2 ∧ Below w.heap.size w w' := by
  have hu24 := Tryd.underlying24
  have HR0_1 := Aside0.mk hr0_1
  have HC0_1 := Aside0.mk hc0_1
  clear hr0_1 hc0_1
  have HR1_1 := Aside0.mk hr1_1
  have HC1_1 := Aside0.mk hc1_1
  clear hr1_1 hc1_1
  have HB := Aside0.mk (Below.refl w.heap.size w)
  have H : ((marginaliaref01_Sound.f k a0_0 l0_1).bind fun t342 => (if t342 = true then ((marginaliaref01_Sound.f k a1_0 l1_1).bind fun t343 => (marginaliaref01_Sub.j0 k (!t343) a0_0 l0_1 a1_0 l1_1)) else (marginaliaref01_Sub.j0 k true a0_0 l0_1 a1_0 l1_1))) = some (r1, r2, r3) := h
  clear h
  have HC3 := Aside0.mk H
  clear H
  go_enter Tryd.func21, Tryd.ntmps21
  go_upto_region 1 with (first | ((with_reducible refine gate_dst (N := 2) rfl ?_); refine box_event ?hg (N := 2) ?hd (cs := #[.bool a0_0, .slice A0_1 l0_1.length c0_1]) (t := 24) ?hr ?_; (case hd => rfl); (case hg => rfl); (case hr => first | (go_simp; done) | (go_simp; rfl)); intro gb339 hg w4 hbox hb; have n0_ := Aside0.mk (below_step bw hb); have n1_ := Aside0.mk (hbox); have n2_ := Aside0.mk ((szL hg)); have n3_ := Aside0.mk ((szL hg)); clear HB; have HB := n0_; have BK339 := n1_; have GW339 := n2_; have GE339 := n3_; clear n0_ n1_ n2_ n3_; clear hb hbox hg) | ((with_reducible refine gate_dst (N := 3) rfl ?_); refine box_event ?hg (N := 3) ?hd (cs := #[.bool a1_0, .slice A1_1 l1_1.length c1_1]) (t := 24) ?hr ?_; (case hd => rfl); (case hg => rfl); (case hr => first | (go_simp; done) | (go_simp; rfl)); intro gb340 hg w5 hbox hb; have n0_ := Aside0.mk (blk_below (bk BK339) hb); have n1_ := Aside0.mk (below_step bw hb); have n2_ := Aside0.mk (hbox); have n3_ := Aside0.mk ((szL hg)); have n4_ := Aside0.mk ((szL hg)); have n5_ := Aside0.mk ((neL hg BK339)); have n6_ := Aside0.mk ((neG hg BK339)); clear BK339 HB; have BK339 := n0_; have HB := n1_; have BK340 := n2_; have GW340 := n3_; have GE340 := n4_; have NB339_340 := n5_; have NB340_339 := n6_; clear n0_ n1_ n2_ n3_ n4_ n5_ n6_; clear hb hbox hg) | ((with_reducible refine gate_dst (N := 4) rfl ?_); refine box_event ?hg (N := 4) ?hd (cs := #[.bool false, .slice none 0 0]) (t := 24) ?hr ?_; (case hd => rfl); (case hg => rfl); (case hr => first | (go_simp; done) | (go_simp; rfl)); intro gb341 hg w6 hbox hb; have n0_ := Aside0.mk (blk_below (bk BK339) hb); have n1_ := Aside0.mk (blk_below (bk BK340) hb); have n2_ := Aside0.mk (below_step bw hb); have n3_ := Aside0.mk (hbox); have n4_ := Aside0.mk ((szL hg)); have n5_ := Aside0.mk ((szL hg)); have n6_ := Aside0.mk ((neL hg BK339)); have n7_ := Aside0.mk ((neG hg BK339)); have n8_ := Aside0.mk ((neL hg BK340)); have n9_ := Aside0.mk ((neG hg BK340)); clear BK339 BK340 HB; have BK339 := n0_; have BK340 := n1_; have HB := n2_; have BK341 := n3_; have GW341 := n4_; have GE341 := n5_; have NB339_341 := n6_; have NB341_339 := n7_; have NB340_341 := n8_; have NB341_340 := n9_; clear n0_ n1_ n2_ n3_ n4_ n5_ n6_ n7_ n8_ n9_; clear hb hbox hg))
  (try simp only [Act.put, List.setIfInBounds_toArray, List.set_cons_zero, List.set_cons_succ])
  go_cut [15] (fun v15 wc => ∃ (kq : Nat) (x15_2 : Bool), v15 = .bool x15_2 ∧ Aside0 (marginaliaref01_Sub.j0 kq x15_2 a0_0 l0_1 a1_0 l1_1 = some (r1, r2, r3)) ∧ Aside0 (kq ≤ k) ∧ Aside0 (wc.heap[gb339]? = some (.cells #[.bool a0_0, (.slice A0_1 l0_1.length c0_1)] 24 (0, 0))) ∧ Aside0 (wc.heap[gb340]? = some (.cells #[.bool a1_0, (.slice A1_1 l1_1.length c1_1)] 24 (0, 0))) ∧ Aside0 (wc.heap[gb341]? = some (.cells #[.bool false, (.slice none 0 0)] 24 (0, 0))) ∧ Aside0 (Below w.heap.size w wc))
  case first =>
    have H := HC3.out
    clear HC3
    replace H := Option.bind_eq_some_iff.mp H
    obtain ⟨t342, A70, H⟩ := H
    replace H : (if t342 = true then ((marginaliaref01_Sound.f k a1_0 l1_1).bind fun t343 => (marginaliaref01_Sub.j0 k (!t343) a0_0 l0_1 a1_0 l1_1)) else (marginaliaref01_Sub.j0 k true a0_0 l0_1 a1_0 l1_1)) = some (r1, r2, r3) := H
    have A7 := Aside0.mk A70
    clear A70
    by_cases c8 : t342 = true
    · subst c8
      have H1 : ((marginaliaref01_Sound.f k a1_0 l1_1).bind fun t343 => (marginaliaref01_Sub.j0 k (!t343) a0_0 l0_1 a1_0 l1_1)) = some (r1, r2, r3) := by rw [if_pos rfl] at H; exact H
      clear H
      have H := H1
      clear H1
      replace H := Option.bind_eq_some_iff.mp H
      obtain ⟨t343, A90, H⟩ := H
      replace H : (marginaliaref01_Sub.j0 k (!t343) a0_0 l0_1 a1_0 l1_1) = some (r1, r2, r3) := H
      have A9 := Aside0.mk A90
      clear A90
      have H' := Aside0.mk H
      clear H
      have hnb10 := NB339_340.out
      have hnc10 := NB340_339.out
      have hnb11 := NB339_341.out
      have hnc11 := NB341_339.out
      have hcz12_0 : w6.cell? ⟨gb339, 0, none⟩ = some (.bool a0_0) := (blk_cell BK339.out 0).trans rfl
      have hcz12_1 : w6.cell? ⟨gb339, 1, none⟩ = some (.slice A0_1 l0_1.length c0_1) := (blk_cell BK339.out 1).trans rfl
      have hfz12_0 := blk_frozen BK339.out 0
      have hfz12_1 := blk_frozen BK339.out 1
      go_wp2_with (first | ((with_reducible refine gate_callee (f := 24) rfl ?_); refine goesL_ (some 9) rfl rfl Tryd.func24 (by kernel_rfl) rfl #[.agg #[.bool a0_0, .slice A0_1 l0_1.length c0_1]] rfl (by (try simp only [List.map_toArray, List.map_cons, List.map_nil]); first | done | rfl | (simp only [List.length_drop, List.length_take]; rfl)) ?_; (with_reducible refine (marginaliaref01_Sound.calls k a0_0 _ _ l0_1 true _ ?side1 ?side2 A7.out).mono ?_); (case side1 => repeat (first | exact (Kd.C_below HR0_1.out HB.out) | (with_reducible refine Kd.C_alloc ?_ _) | (with_reducible refine Kd.C_drewN ?_ _) | (with_reducible refine Kd.C_drew ?_))); (case side2 => exact HC0_1.out); rintro e w13 ⟨rfl, hb⟩; refine ⟨_, rfl, ?_⟩; have n0_ := Aside0.mk (blk_below (bk BK339) hb); have n1_ := Aside0.mk (blk_below (bk BK340) hb); have n2_ := Aside0.mk (blk_below (bk BK341) hb); have n3_ := Aside0.mk (below_step bw hb); clear BK339 BK340 BK341 HB; have BK339 := n0_; have BK340 := n1_; have BK341 := n2_; have HB := n3_; clear n0_ n1_ n2_ n3_; (try clear hb); (try clear hb2); (try clear hk); (try clear hi); have hnb14 := NB340_341.out; have hnc14 := NB341_340.out; have hcz15_0 : w13.cell? ⟨gb340, 0, none⟩ = some (.bool a1_0) := (blk_cell BK340.out 0).trans rfl; have hcz15_1 : w13.cell? ⟨gb340, 1, none⟩ = some (.slice A1_1 l1_1.length c1_1) := (blk_cell BK340.out 1).trans rfl; have hfz15_0 := blk_frozen BK340.out 0; have hfz15_1 := blk_frozen BK340.out 1) | (go_at_call 24; (with_reducible refine (marginaliaref01_Sound.calls k a1_0 _ _ l1_1 t343 _ ?side1 ?side2 A9.out).mono ?_); (case side1 => repeat (first | exact (Kd.C_below HR1_1.out HB.out) | (with_reducible refine Kd.C_alloc ?_ _) | (with_reducible refine Kd.C_drewN ?_ _) | (with_reducible refine Kd.C_drew ?_))); (case side2 => exact HC1_1.out); rintro e w16 ⟨rfl, hb⟩; have n0_ := Aside0.mk (blk_below (bk BK339) hb); have n1_ := Aside0.mk (blk_below (bk BK340) hb); have n2_ := Aside0.mk (blk_below (bk BK341) hb); have n3_ := Aside0.mk (below_step bw hb); clear BK339 BK340 BK341 HB; have BK339 := n0_; have BK340 := n1_; have BK341 := n2_; have HB := n3_; clear n0_ n1_ n2_ n3_; (try clear hb); (try clear hb2); (try clear hk); (try clear hi)))
      go_meet
      case rel => exact ⟨_, (!t343), (by first | rfl | (simp; done) | (simp [*]; done)), H', ⟨by first | omega | exact Nat.le_refl _⟩, ⟨bk BK339⟩, ⟨bk BK340⟩, ⟨bk BK341⟩, ⟨bw⟩⟩
    · replace c8 := Bool.eq_false_iff.mpr c8
      subst c8
      have H1 : (marginaliaref01_Sub.j0 k true a0_0 l0_1 a1_0 l1_1) = some (r1, r2, r3) := by rw [if_neg (show ¬ (false = true) by decide)] at H; exact H
      clear H
      have H := H1
      clear H1
      have H' := Aside0.mk H
      clear H
      have hnb17 := NB339_340.out
      have hnc17 := NB340_339.out
      have hnb18 := NB339_341.out
      have hnc18 := NB341_339.out
      have hcz19_0 : w6.cell? ⟨gb339, 0, none⟩ = some (.bool a0_0) := (blk_cell BK339.out 0).trans rfl
      have hcz19_1 : w6.cell? ⟨gb339, 1, none⟩ = some (.slice A0_1 l0_1.length c0_1) := (blk_cell BK339.out 1).trans rfl
      have hfz19_0 := blk_frozen BK339.out 0
      have hfz19_1 := blk_frozen BK339.out 1
      go_wp2_with (first | ((with_reducible refine gate_callee (f := 24) rfl ?_); refine goesL_ (some 9) rfl rfl Tryd.func24 (by kernel_rfl) rfl #[.agg #[.bool a0_0, .slice A0_1 l0_1.length c0_1]] rfl (by (try simp only [List.map_toArray, List.map_cons, List.map_nil]); first | done | rfl | (simp only [List.length_drop, List.length_take]; rfl)) ?_; (with_reducible refine (marginaliaref01_Sound.calls k a0_0 _ _ l0_1 false _ ?side1 ?side2 A7.out).mono ?_); (case side1 => repeat (first | exact (Kd.C_below HR0_1.out HB.out) | (with_reducible refine Kd.C_alloc ?_ _) | (with_reducible refine Kd.C_drewN ?_ _) | (with_reducible refine Kd.C_drew ?_))); (case side2 => exact HC0_1.out); rintro e w20 ⟨rfl, hb⟩; refine ⟨_, rfl, ?_⟩; have n0_ := Aside0.mk (blk_below (bk BK339) hb); have n1_ := Aside0.mk (blk_below (bk BK340) hb); have n2_ := Aside0.mk (blk_below (bk BK341) hb); have n3_ := Aside0.mk (below_step bw hb); clear BK339 BK340 BK341 HB; have BK339 := n0_; have BK340 := n1_; have BK341 := n2_; have HB := n3_; clear n0_ n1_ n2_ n3_; (try clear hb); (try clear hb2); (try clear hk); (try clear hi)))
      go_meet
      case rel => exact ⟨_, (true), (by first | rfl | (simp; done) | (simp [*]; done)), H', ⟨by first | omega | exact Nat.le_refl _⟩, ⟨bk BK339⟩, ⟨bk BK340⟩, ⟨bk BK341⟩, ⟨bw⟩⟩
  case rest =>
    clear HC3
    try clear c1
    try clear c2
    try clear p2
    try clear c8
    try clear c10
    try clear c11
    try clear c14
    try clear c17
    try clear c18
    try clear hcz12_0
    try clear hcz12_1
    try clear hcz15_0
    try clear hcz15_1
    try clear hcz19_0
    try clear hcz19_1
    try clear hfz12_0
    try clear hfz12_1
    try clear hfz15_0
    try clear hfz15_1
    try clear hfz19_0
    try clear hfz19_1
    obtain ⟨kq, x15_2, rfl, HA, HJ2, BK339, BK340, BK341, HB⟩ := hcut
    cases kq with
    | zero => exact absurd HA.out (by simp [marginaliaref01_Sub.j0])
    | succ kj2 =>
      have H := HA.out
      clear HA
      simp only [marginaliaref01_Sub.j0] at H
      by_cases c21 : x15_2 = true
      · subst c21
        have H1 : (some (false, ([] : List Int), 2)) = some (r1, r2, r3) := by rw [if_pos rfl] at H; exact H
        clear H
        have H := H1
        clear H1
        simp only [Option.some.injEq, Prod.mk.injEq] at H
        obtain ⟨rfl, rfl, rfl⟩ := H
        have hnb22 := NB341_339.out
        have hnc22 := NB339_341.out
        have hnb23 := NB341_340.out
        have hnc23 := NB340_341.out
        have hcz24_0 : wc.cell? ⟨gb341, 0, none⟩ = some (.bool false) := (blk_cell BK341.out 0).trans rfl
        have hcz24_1 : wc.cell? ⟨gb341, 1, none⟩ = some (.slice none 0 0) := (blk_cell BK341.out 1).trans rfl
        have hfz24_0 := blk_frozen BK341.out 0
        have hfz24_1 := blk_frozen BK341.out 1
        go_wp2
        refine bodyPost_ret (results_ct rfl _ _ gb341 24 #[.bool false, .slice none 0 0] (0, 0) _ rfl (by (with_reducible repeat (first | refine blk_drewN ?_ _ | refine blk_drew ?_ | refine blk_alloc ?_ _)); refine blk_put (cs := #[.bool false, .slice none 0 0]) ?_ 1 _ rfl; (with_reducible repeat (first | refine blk_drewN ?_ _ | refine blk_drew ?_ | refine blk_alloc ?_ _)); refine blk_put (cs := #[.bool false, .slice none 0 0]) ?_ 0 _ rfl; (with_reducible repeat (first | refine blk_drewN ?_ _ | refine blk_drew ?_ | refine blk_alloc ?_ _)); exact BK341.out) Tryd.underlying24 rfl (by kernel_rfl)) rfl ?_
        exact ⟨_, by first | rfl | (simp [errW_none, errW_some] <;> rfl) | (simp [*, errW_none, errW_some] <;> rfl), by first | exact Kd.R_nil _ _ _ _ _ | exact Kd.N_nil _ _ _ _ _ | exact Kd.V_nil _ _ _ _ _ | exact Kd.Q_nil _ _ _ _ _ | exact Kd.S_nil _ _ _ _ _, bw⟩
      · replace c21 := Bool.eq_false_iff.mpr c21
        subst c21
        have H1 : ((marginaliaref01_Digits.f kj2 a0_0 l0_1).bind fun t344 => ((marginaliaref01_Digits.f kj2 a1_0 l1_1).bind fun t347 => ((marginaliaref01_sum.f kj2 a0_0 t344 (!a1_0) t347).bind fun bt350 => ((marginaliaref01_give.f kj2 bt350.1 bt350.2).bind fun bt354 => (some (bt354.1, bt354.2.1, bt354.2.2)))))) = some (r1, r2, r3) := by rw [if_neg (show ¬ (false = true) by decide)] at H; exact H
        clear H
        have H := H1
        clear H1
        replace H := Option.bind_eq_some_iff.mp H
        obtain ⟨t344, A250, H⟩ := H
        replace H : ((marginaliaref01_Digits.f kj2 a1_0 l1_1).bind fun t347 => ((marginaliaref01_sum.f kj2 a0_0 t344 (!a1_0) t347).bind fun bt350 => ((marginaliaref01_give.f kj2 bt350.1 bt350.2).bind fun bt354 => (some (bt354.1, bt354.2.1, bt354.2.2))))) = some (r1, r2, r3) := H
        have A25 := Aside0.mk A250
        clear A250
        replace H := Option.bind_eq_some_iff.mp H
        obtain ⟨t347, A260, H⟩ := H
        replace H : ((marginaliaref01_sum.f kj2 a0_0 t344 (!a1_0) t347).bind fun bt350 => ((marginaliaref01_give.f kj2 bt350.1 bt350.2).bind fun bt354 => (some (bt354.1, bt354.2.1, bt354.2.2)))) = some (r1, r2, r3) := H
        have A26 := Aside0.mk A260
        clear A260
        replace H := Option.bind_eq_some_iff.mp H
        obtain ⟨⟨t350, t351⟩, A270, H⟩ := H
        replace H : ((marginaliaref01_give.f kj2 t350 t351).bind fun bt354 => (some (bt354.1, bt354.2.1, bt354.2.2))) = some (r1, r2, r3) := H
        have A27 := Aside0.mk A270
        clear A270
        replace H := Option.bind_eq_some_iff.mp H
        obtain ⟨⟨t354, t355, t358⟩, A280, H⟩ := H
        replace H : (some (t354, t355, t358)) = some (r1, r2, r3) := H
        have A28 := Aside0.mk A280
        clear A280
        simp only [Option.some.injEq, Prod.mk.injEq] at H
        obtain ⟨rfl, rfl, rfl⟩ := H
        try go_wp2
        have n0_ := Aside0.mk (blk_drew BK339.out)
        have n1_ := Aside0.mk (blk_drew BK340.out)
        have n2_ := Aside0.mk (blk_drew BK341.out)
        have n3_ := Aside0.mk (below_drew1 HB.out)
        clear BK339 BK340 BK341 HB
        have BK339 := n0_
        have BK340 := n1_
        have BK341 := n2_
        have HB := n3_
        clear n0_ n1_ n2_ n3_
        refine start_ (n := 15) (S := fun w' => w'.cell? ⟨gb339, 0, none⟩ = some (.bool a0_0) ∧ w'.cell? ⟨gb339, 1, none⟩ = some (.slice A0_1 l0_1.length c0_1) ∧ w'.cell? ⟨gb340, 0, none⟩ = some (.bool a1_0) ∧ w'.cell? ⟨gb340, 1, none⟩ = some (.slice A1_1 l1_1.length c1_1)) (ds := []) #[false, false, false, false, false, false, false, false, false, false, false, false, false, false, false] (by kernel_rfl) rfl rfl ⟨(blk_cell BK339.out 0).trans rfl, (blk_cell BK339.out 1).trans rfl, (blk_cell BK340.out 0).trans rfl, (blk_cell BK340.out 1).trans rfl⟩ (fun hHeld => ?_); refine with_tabW marginaliaref01_Sub.tab3 marginaliaref01_Sub.bits3 (fun HT_ HW_ => ?_)
        generalize wc.drew = w29 at BK339 BK340 BK341 HB hHeld ⊢
        refine pure_ (i := 0) (N := some 18) (v := ?_) (a' := ?_) #[true, false, false, false, false, false, false, false, false, false, false, false, false, false, false] rfl rfl (any_of HT_.out (by kernel_rfl)) (fun _ _ _ h => h) (Or.inl ⟨by rfl, ?_⟩) ?_ ?_
        rotate_left
        · intro w'
          go_simp
          with_reducible rfl
        rotate_left
        · simp only [Act.put, List.setIfInBounds_toArray, List.set_cons_zero, List.set_cons_succ, i64_w, i32_w]
          rfl
        refine pure_ (i := 4) (N := some 22) (v := ?_) (a' := ?_) #[true, false, false, false, true, false, false, false, false, false, false, false, false, false, false] rfl rfl (any_of HT_.out (by kernel_rfl)) (fun _ _ _ h => h) (Or.inl ⟨by rfl, ?_⟩) ?_ ?_
        rotate_left
        · intro w'
          go_simp
          with_reducible rfl
        rotate_left
        · simp only [Act.put, List.setIfInBounds_toArray, List.set_cons_zero, List.set_cons_succ, i64_w, i32_w]
          rfl
        refine take_ (i := 1) (N := some 19) (v := ?_) (a' := ?_) #[true, true, false, false, true, false, false, false, false, false, false, false, false, false, false] rfl rfl (take_ofW HT_.out HW_.out (by kernel_rfl)) (fun _ _ _ h => h) (Or.inl ⟨by rfl, ?_⟩) hHeld ?_ ?_
        rotate_left
        · rintro w' ⟨s0, s1, s2, s3⟩
          go_simp
          with_reducible rfl
        rotate_left
        · simp only [Act.put, List.setIfInBounds_toArray, List.set_cons_zero, List.set_cons_succ, i64_w, i32_w]
          rfl
        refine take_ (i := 2) (N := some 20) (v := ?_) (a' := ?_) #[true, true, true, false, true, false, false, false, false, false, false, false, false, false, false] rfl rfl (take_ofW HT_.out HW_.out (by kernel_rfl)) (fun _ _ _ h => h) (Or.inl ⟨by rfl, ?_⟩) hHeld ?_ ?_
        rotate_left
        · rintro w' ⟨s0, s1, s2, s3⟩
          go_simp
          with_reducible rfl
        rotate_left
        · simp only [Act.put, List.setIfInBounds_toArray, List.set_cons_zero, List.set_cons_succ, i64_w, i32_w]
          rfl
        refine take_ (i := 5) (N := some 23) (v := ?_) (a' := ?_) #[true, true, true, false, true, true, false, false, false, false, false, false, false, false, false] rfl rfl (take_ofW HT_.out HW_.out (by kernel_rfl)) (fun _ _ _ h => h) (Or.inl ⟨by rfl, ?_⟩) hHeld ?_ ?_
        rotate_left
        · rintro w' ⟨s0, s1, s2, s3⟩
          go_simp
          with_reducible rfl
        rotate_left
        · simp only [Act.put, List.setIfInBounds_toArray, List.set_cons_zero, List.set_cons_succ, i64_w, i32_w]
          rfl
        refine pure_ (i := 6) (N := some 24) (v := ?_) (a' := ?_) #[true, true, true, false, true, true, true, false, false, false, false, false, false, false, false] rfl rfl (any_of HT_.out (by kernel_rfl)) (fun _ _ _ h => h) (Or.inl ⟨by rfl, ?_⟩) ?_ ?_
        rotate_left
        · intro w'
          go_simp
          with_reducible rfl
        rotate_left
        · simp only [Act.put, List.setIfInBounds_toArray, List.set_cons_zero, List.set_cons_succ, i64_w, i32_w]
          rfl
        refine take_ (i := 7) (N := some 25) (v := ?_) (a' := ?_) #[true, true, true, false, true, true, true, true, false, false, false, false, false, false, false] rfl rfl (take_ofW HT_.out HW_.out (by kernel_rfl)) (fun _ _ _ h => h) (Or.inl ⟨by rfl, ?_⟩) hHeld ?_ ?_
        rotate_left
        · rintro w' ⟨s0, s1, s2, s3⟩
          go_simp
          with_reducible rfl
        rotate_left
        · simp only [Act.put, List.setIfInBounds_toArray, List.set_cons_zero, List.set_cons_succ, i64_w, i32_w]
          rfl
        refine one_ (i := 3) (N := some 21) #[true, true, true, true, true, true, true, true, false, false, false, false, false, false, false] rfl rfl (one_of HT_.out (by kernel_rfl)) (by decide) (fun K hK => ?_)
        refine goes_ Tryd.func40 (by kernel_rfl) rfl #[.agg #[.bool a0_0, .slice A0_1 l0_1.length c0_1]] (by rfl) rfl rfl (by (try simp only [List.map_toArray, List.map_cons, List.map_nil]); first | done | rfl | (simp only [List.length_drop, List.length_take]; rfl)) ?_
        with_reducible refine (marginaliaref01_Digits.calls kj2 a0_0 _ _ l0_1 t344 _ ?side1 ?side2 A25.out).mono ?_
        (case side1 => repeat (first | exact (Kd.C_below HR0_1.out HB.out) | (with_reducible refine Kd.C_alloc ?_ _) | (with_reducible refine Kd.C_drewN ?_ _) | (with_reducible refine Kd.C_drew ?_)))
        (case side2 => exact HC0_1.out)
        rintro e w30 ⟨v345, rfl, ho0, hb⟩
        refine ⟨_, rfl, ?_⟩
        have n0_ := Aside0.mk (Kd.R_lower ho0 (below_size bw))
        have n1_ := Aside0.mk (blk_below (bk BK339) hb)
        have n2_ := Aside0.mk (blk_below (bk BK340) hb)
        have n3_ := Aside0.mk (blk_below (bk BK341) hb)
        have n4_ := Aside0.mk (below_step bw hb)
        clear BK339 BK340 BK341 HB
        have HO346 := n0_
        have BK339 := n1_
        have BK340 := n2_
        have BK341 := n3_
        have HB := n4_
        clear n0_ n1_ n2_ n3_ n4_
        (try clear hb)
        (try clear hb2)
        (try clear hk)
        (try clear hi)
        (try clear ho0)
        refine hK.out _ _ ⟨(blk_cell BK339.out 0).trans rfl, (blk_cell BK339.out 1).trans rfl, (blk_cell BK340.out 0).trans rfl, (blk_cell BK340.out 1).trans rfl⟩ (fun hHeld => ?_)
        clear hK K
        refine norm_ (a' := ?_) ?_ ?_
        rotate_left
        · show Act.put _ (some 21) _ = _
          simp only [Act.put, List.setIfInBounds_toArray, List.set_cons_zero, List.set_cons_succ, i64_w, i32_w]
          rfl
        refine one_ (i := 8) (N := some 26) #[true, true, true, true, true, true, true, true, true, false, false, false, false, false, false] rfl rfl (one_of HT_.out (by kernel_rfl)) (by decide) (fun K hK => ?_)
        refine goes_ Tryd.func40 (by kernel_rfl) rfl #[.agg #[.bool a1_0, .slice A1_1 l1_1.length c1_1]] (by rfl) rfl rfl (by (try simp only [List.map_toArray, List.map_cons, List.map_nil]); first | done | rfl | (simp only [List.length_drop, List.length_take]; rfl)) ?_
        with_reducible refine (marginaliaref01_Digits.calls kj2 a1_0 _ _ l1_1 t347 _ ?side1 ?side2 A26.out).mono ?_
        (case side1 => repeat (first | exact (Kd.C_below HR1_1.out HB.out) | (with_reducible refine Kd.C_alloc ?_ _) | (with_reducible refine Kd.C_drewN ?_ _) | (with_reducible refine Kd.C_drew ?_)))
        (case side2 => exact HC1_1.out)
        rintro e w31 ⟨v348, rfl, ho0, hb⟩
        refine ⟨_, rfl, ?_⟩
        have n0_ := Aside0.mk (Kd.R_elder' (kR HO346) (Kd.R_base ho0) hb)
        have n1_ := Aside0.mk (Kd.R_lower (Kd.R_new' ho0 (Kd.R_lt (kR HO346))) (below_size bw))
        have n2_ := Aside0.mk (blk_below (bk BK339) hb)
        have n3_ := Aside0.mk (blk_below (bk BK340) hb)
        have n4_ := Aside0.mk (blk_below (bk BK341) hb)
        have n5_ := Aside0.mk (below_step bw hb)
        clear HO346 BK339 BK340 BK341 HB
        have HO346 := n0_
        have HO349 := n1_
        have BK339 := n2_
        have BK340 := n3_
        have BK341 := n4_
        have HB := n5_
        clear n0_ n1_ n2_ n3_ n4_ n5_
        (try clear hb)
        (try clear hb2)
        (try clear hk)
        (try clear hi)
        (try clear ho0)
        obtain ⟨Ao32, co32, eo32⟩ := Kd.R_slice HO346.out
        (first | subst eo32 | (injection eo32 with f1_ f2_ f3_; have f4_ := f1_.symm; have f5_ := f3_.symm; clear f1_ f2_ f3_; subst f4_; subst f5_))
        obtain ⟨Ao33, co33, eo33⟩ := Kd.R_slice HO349.out
        (first | subst eo33 | (injection eo33 with f1_ f2_ f3_; have f4_ := f1_.symm; have f5_ := f3_.symm; clear f1_ f2_ f3_; subst f4_; subst f5_))
        refine hK.out _ _ ⟨(blk_cell BK339.out 0).trans rfl, (blk_cell BK339.out 1).trans rfl, (blk_cell BK340.out 0).trans rfl, (blk_cell BK340.out 1).trans rfl⟩ (fun hHeld => ?_)
        clear hK K
        refine norm_ (a' := ?_) ?_ ?_
        rotate_left
        · show Act.put _ (some 26) _ = _
          simp only [Act.put, List.setIfInBounds_toArray, List.set_cons_zero, List.set_cons_succ, i64_w, i32_w]
          rfl
        refine one_ (i := 9) (N := some 27) #[true, true, true, true, true, true, true, true, true, true, false, false, false, false, false] rfl rfl (one_of HT_.out (by kernel_rfl)) (by decide) (fun K hK => ?_)
        refine goes_ Tryd.func45 (by kernel_rfl) rfl #[.bool a0_0, .slice Ao32 t344.length co32, .bool (!a1_0), .slice Ao33 t347.length co33] (by rfl) rfl rfl (by (try simp only [List.map_toArray, List.map_cons, List.map_nil]); first | done | rfl | (simp only [List.length_drop, List.length_take]; rfl)) ?_
        with_reducible refine (marginaliaref01_sum.calls kj2 a0_0 _ _ t344 (!a1_0) _ _ t347 t350 t351 _ ?side1 ?side2 ?side3 ?side4 A27.out).mono ?_
        (case side1 => repeat (first | exact (Kd.R_reads' HO346.out).2.2 | (with_reducible refine Kd.C_alloc ?_ _) | (with_reducible refine Kd.C_drewN ?_ _) | (with_reducible refine Kd.C_drew ?_)))
        (case side2 => exact (Kd.R_reads' HO346.out).2.1)
        (case side3 => repeat (first | exact (Kd.R_reads' HO349.out).2.2 | (with_reducible refine Kd.C_alloc ?_ _) | (with_reducible refine Kd.C_drewN ?_ _) | (with_reducible refine Kd.C_drew ?_)))
        (case side4 => exact (Kd.R_reads' HO349.out).2.1)
        rintro e w34 ⟨v352, rfl, ho0, hb⟩
        refine ⟨_, rfl, ?_⟩
        have n0_ := Aside0.mk (Kd.R_elder' (kR HO346) (Kd.R_base ho0) hb)
        have n1_ := Aside0.mk (Kd.R_elder' (kR HO349) (Kd.R_base ho0) hb)
        have n2_ := Aside0.mk (Kd.R_lower (Kd.R_new' (Kd.R_new' ho0 (Kd.R_lt (kR HO346))) (Kd.R_lt (kR HO349))) (below_size bw))
        have n3_ := Aside0.mk (blk_below (bk BK339) hb)
        have n4_ := Aside0.mk (blk_below (bk BK340) hb)
        have n5_ := Aside0.mk (blk_below (bk BK341) hb)
        have n6_ := Aside0.mk (below_step bw hb)
        clear HO346 HO349 BK339 BK340 BK341 HB
        have HO346 := n0_
        have HO349 := n1_
        have HO353 := n2_
        have BK339 := n3_
        have BK340 := n4_
        have BK341 := n5_
        have HB := n6_
        clear n0_ n1_ n2_ n3_ n4_ n5_ n6_
        (try clear hb)
        (try clear hb2)
        (try clear hk)
        (try clear hi)
        (try clear ho0)
        refine hK.out _ _ ⟨(blk_cell BK339.out 0).trans rfl, (blk_cell BK339.out 1).trans rfl, (blk_cell BK340.out 0).trans rfl, (blk_cell BK340.out 1).trans rfl⟩ (fun hHeld => ?_)
        clear hK K
        refine norm_ (a' := ?_) ?_ ?_
        rotate_left
        · show Act.put _ (some 27) _ = _
          simp only [Act.put, List.setIfInBounds_toArray, List.set_cons_zero, List.set_cons_succ, i64_w, i32_w]
          rfl
        refine pure_ (i := 10) (N := some 17) (v := ?_) (a' := ?_) #[true, true, true, true, true, true, true, true, true, true, true, false, false, false, false] rfl rfl (any_of HT_.out (by kernel_rfl)) (fun _ _ _ h => h) (Or.inl ⟨by rfl, ?_⟩) ?_ ?_
        rotate_left
        · intro w'
          go_simp
          with_reducible rfl
        rotate_left
        · simp only [Act.put, List.setIfInBounds_toArray, List.set_cons_zero, List.set_cons_succ, i64_w, i32_w]
          rfl
        refine pure_ (i := 11) (N := some 28) (v := ?_) (a' := ?_) #[true, true, true, true, true, true, true, true, true, true, true, true, false, false, false] rfl rfl (any_of HT_.out (by kernel_rfl)) (fun _ _ _ h => h) (Or.inl ⟨by rfl, ?_⟩) ?_ ?_
        rotate_left
        · intro w'
          go_simp
          with_reducible rfl
        rotate_left
        · simp only [Act.put, List.setIfInBounds_toArray, List.set_cons_zero, List.set_cons_succ, i64_w, i32_w]
          rfl
        refine pure_ (i := 12) (N := some 29) (v := ?_) (a' := ?_) #[true, true, true, true, true, true, true, true, true, true, true, true, true, false, false] rfl rfl (any_of HT_.out (by kernel_rfl)) (fun _ _ _ h => h) (Or.inl ⟨by rfl, ?_⟩) ?_ ?_
        rotate_left
        · intro w'
          go_simp
          with_reducible rfl
        rotate_left
        · simp only [Act.put, List.setIfInBounds_toArray, List.set_cons_zero, List.set_cons_succ, i64_w, i32_w]
          rfl
        refine pure_ (i := 13) (N := some 6) (v := ?_) (a' := ?_) #[true, true, true, true, true, true, true, true, true, true, true, true, true, true, false] rfl rfl (any_of HT_.out (by kernel_rfl)) (fun _ _ _ h => h) (Or.inl ⟨by rfl, ?_⟩) ?_ ?_
        rotate_left
        · intro w'
          go_simp
          with_reducible rfl
        rotate_left
        · simp only [Act.put, List.setIfInBounds_toArray, List.set_cons_zero, List.set_cons_succ, i64_w, i32_w]
          rfl
        refine pure_ (i := 14) (N := some 7) (v := ?_) (a' := ?_) #[true, true, true, true, true, true, true, true, true, true, true, true, true, true, true] rfl rfl (any_of HT_.out (by kernel_rfl)) (fun _ _ _ h => h) (Or.inl ⟨by rfl, ?_⟩) ?_ ?_
        rotate_left
        · intro w'
          go_simp
          with_reducible rfl
        rotate_left
        · simp only [Act.put, List.setIfInBounds_toArray, List.set_cons_zero, List.set_cons_succ, i64_w, i32_w]
          rfl
        refine done_ (done_of HT_.out (by kernel_rfl)) ?_
        obtain ⟨Ao35, co35, eo35⟩ := Kd.R_slice HO353.out
        subst eo35
        try go_wp2_with (first | ((with_reducible refine gate_callee (f := 41) rfl ?_); refine goesL_ (some 32) rfl rfl Tryd.func41 (by kernel_rfl) rfl #[.bool t350, .slice Ao35 t351.length co35] rfl (by (try simp only [List.map_toArray, List.map_cons, List.map_nil]); first | done | rfl | (simp only [List.length_drop, List.length_take]; rfl)) ?_; (with_reducible refine (marginaliaref01_give.calls kj2 t350 (fun k_ => some k_ = (.slice Ao35 t351.length co35 : Value).ownBlock) (.slice Ao35 t351.length co35) t351 t354 t355 t358 w _ ?side1 ?side2 A28.out).mono ?_); (case side1 => repeat (first | (with_reducible first | exact HB.out | apply below_alloc | apply pw_below_drewN | apply below_drew1 | refine below_set ?_ GE339.out | refine below_set ?_ GE340.out | refine below_set ?_ GE341.out) | exact HB.out)); (case side2 => exact Kd.R_tight rfl HO353.out); rintro e w36 ⟨v356, rfl, ho0, hb, hkp⟩; refine ⟨_, rfl, ?_⟩; have n0_ := Aside0.mk (blk_kept (bk BK339) hkp (fun hs_ => (fun e_ => (Kd.R_ne HO353.out BK339.out (by decide)) e_) hs_)); have n1_ := Aside0.mk (blk_kept (bk BK340) hkp (fun hs_ => (fun e_ => (Kd.R_ne HO353.out BK340.out (by decide)) e_) hs_)); have n2_ := Aside0.mk (blk_kept (bk BK341) hkp (fun hs_ => (fun e_ => (Kd.R_ne HO353.out BK341.out (by decide)) e_) hs_)); have n3_ := Aside0.mk (Kd.R_mono (ok' := fun k_ => some k_ ≠ (.slice Ao33 t347.length co33 : Value).ownBlock) (Kd.R_keptB (HO346.out) hkp (fun k_ hk_ hs_ => (hk_.2) hs_)) (fun k_ hk_ => hk_.1.1.2)); have n4_ := Aside0.mk (Kd.R_mono (ok' := fun k_ => some k_ ≠ (.slice Ao32 t344.length co32 : Value).ownBlock) (Kd.R_keptB (HO349.out) hkp (fun k_ hk_ hs_ => (hk_.2) hs_)) (fun k_ hk_ => hk_.1.1.2)); have n5_ := Aside0.mk (Kd.R_mono (ok' := fun k_ => True) ho0 (fun k_ hk_ => trivial)); have n6_ := Aside0.mk (hb); clear BK339 BK340 BK341 HO346 HO349 HB HO353; have BK339 := n0_; have BK340 := n1_; have BK341 := n2_; have HO346 := n3_; have HO349 := n4_; have HO357 := n5_; have HB := n6_; clear n0_ n1_ n2_ n3_ n4_ n5_ n6_; (try clear hb); (try clear hkp); (try clear ho0); have hnb37 := NB341_339.out; have hnc37 := NB339_341.out; have hnb38 := NB341_340.out; have hnc38 := NB340_341.out; have hcz39_0 : w36.cell? ⟨gb341, 0, none⟩ = some (.bool false) := (blk_cell BK341.out 0).trans rfl; have hcz39_1 : w36.cell? ⟨gb341, 1, none⟩ = some (.slice none 0 0) := (blk_cell BK341.out 1).trans rfl; have hfz39_0 := blk_frozen BK341.out 0; have hfz39_1 := blk_frozen BK341.out 1; obtain ⟨Ao40, co40, eo40⟩ := Kd.R_slice HO357.out; subst eo40))
        refine bodyPost_ret (results_ct rfl _ _ gb341 24 #[.bool t354, .slice Ao40 t355.length co40] (0, 0) _ rfl (by (with_reducible repeat (first | refine blk_drewN ?_ _ | refine blk_drew ?_ | refine blk_alloc ?_ _)); refine blk_put (cs := #[.bool t354, .slice none 0 0]) ?_ 1 _ rfl; (with_reducible repeat (first | refine blk_drewN ?_ _ | refine blk_drew ?_ | refine blk_alloc ?_ _)); refine blk_put (cs := #[.bool false, .slice none 0 0]) ?_ 0 _ rfl; (with_reducible repeat (first | refine blk_drewN ?_ _ | refine blk_drew ?_ | refine blk_alloc ?_ _)); exact BK341.out) Tryd.underlying24 rfl (by kernel_rfl)) rfl ?_
        exact ⟨_, by first | rfl | (simp [errW_none, errW_some] <;> rfl) | (simp [*, errW_none, errW_some] <;> rfl), by (with_reducible repeat (first | apply Kd.R_alloc | apply Kd.R_drewN | apply Kd.R_drew)); exact Kd.R_mono (Kd.R_far (p := ⟨gb341, 1, none⟩) (Kd.R_far (p := ⟨gb341, 0, none⟩) (Kd.R_types HO357.out BK341.out (by decide)) (fun _ hk => hk.2) (.bool t354)) (fun _ hk => hk.2) (.slice Ao40 t355.length co40)) (fun _ hk => trivial), bw⟩
end Go.Proofs.YtflmioakfboanaaDoor.PNumSums
end
section
namespace Go.Proofs.YtflmioakfboanaaDoor.PNumSums
open Go.Proofs.YtflmioakfboanaaDoor.Sq
open Go.RowKit Go.Proofs.YtflmioakfboanaaDoorW.PrintWords Go.Proofs.YtflmioakfboanaaDoorW.PrintLast Go.Proofs.YtflmioakfboanaaDoorW.PrintMore
set_option linter.unusedVariables false
set_option linter.unusedSimpArgs false
mutual
def num_Cmp.j0 : Nat → Bool → Bool → List Int → Bool → List Int → Option (Int)
  | 0, _, _, _, _, _ => none
  | k + 1, x5, x360000, x360001, x361000, x361001 => if x5 = true then (some 0) else (if x360000 = true then (num_Cmp.j1 k x361000 x360000 x360001 x361000 x361001) else (num_Cmp.j1 k false x360000 x360001 x361000 x361001))
def num_Cmp.j1 : Nat → Bool → Bool → List Int → Bool → List Int → Option (Int)
  | 0, _, _, _, _, _ => none
  | k + 1, x14, x360000, x360001, x361000, x361001 => if x14 = true then ((num_size.f k x361001 x360001).bind fun t363 => (some t363)) else (if x360000 = true then (some (-1)) else (if x361000 = true then (some 1) else ((num_size.f k x360001 x361001).bind fun t364 => (some t364))))
end
def num_Cmp.f (k : Nat) (a0_0 : Bool) (l0_1 : List Int) (a1_0 : Bool) (l1_1 : List Int) : Option (Int) := (num_Sound.f a0_0 l0_1).bind fun t361 => (if t361 = true then ((num_Sound.f a1_0 l1_1).bind fun t362 => (num_Cmp.j0 k (!t362) a0_0 l0_1 a1_0 l1_1)) else (num_Cmp.j0 k true a0_0 l0_1 a1_0 l1_1))
set_option maxHeartbeats 8000000 in
set_option maxRecDepth 100000 in
theorem num_Cmp.calls (k : Nat) (a0_0 : Bool) (A0_1 : Option Addr) (c0_1 : Nat) (l0_1 : List Int) (a1_0 : Bool) (A1_1 : Option Addr) (c1_1 : Nat) (l1_1 : List Int) (r : Int) (w : World) (hr0_1 : Kd.C (Kd.int .u32) w A0_1 l0_1.length l0_1) (hc0_1 : l0_1.length ≤ c0_1) (hr1_1 : Kd.C (Kd.int .u32) w A1_1 l1_1.length l1_1) (hc1_1 : l1_1.length ≤ c1_1) (h : num_Cmp.f k a0_0 l0_1 a1_0 l1_1 = some r) :
    Calls Tryd.prog 22 #[.agg #[.bool a0_0, .slice A0_1 l0_1.length c0_1], .agg #[.bool a1_0, .slice A1_1 l1_1.length c1_1]] w fun e w' => e = .returned (.int .i64 r) ∧ Below w.heap.size w w' := by
  have hu24 := Tryd.underlying24
  have HR0_1 := Aside0.mk hr0_1
  have HC0_1 := Aside0.mk hc0_1
  clear hr0_1 hc0_1
  have HR1_1 := Aside0.mk hr1_1
  have HC1_1 := Aside0.mk hc1_1
  clear hr1_1 hc1_1
  have HB := Aside0.mk (Below.refl w.heap.size w)
  have H : ((num_Sound.f a0_0 l0_1).bind fun t361 => (if t361 = true then ((num_Sound.f a1_0 l1_1).bind fun t362 => (num_Cmp.j0 k (!t362) a0_0 l0_1 a1_0 l1_1)) else (num_Cmp.j0 k true a0_0 l0_1 a1_0 l1_1))) = some r := h
  clear h
  have HC3 := Aside0.mk H
  clear H
  go_enter Tryd.func22, Tryd.ntmps22
  go_upto_region 1 with (first | ((with_reducible refine gate_dst (N := 2) rfl ?_); refine box_event ?hg (N := 2) ?hd (cs := #[.bool a0_0, .slice A0_1 l0_1.length c0_1]) (t := 24) ?hr ?_; (case hd => rfl); (case hg => rfl); (case hr => first | (go_simp; done) | (go_simp; rfl)); intro gb359 hg w4 hbox hb; have n0_ := Aside0.mk (below_step bw hb); have n1_ := Aside0.mk (hbox); have n2_ := Aside0.mk ((szL hg)); have n3_ := Aside0.mk ((szL hg)); clear HB; have HB := n0_; have BK359 := n1_; have GW359 := n2_; have GE359 := n3_; clear n0_ n1_ n2_ n3_; clear hb hbox hg) | ((with_reducible refine gate_dst (N := 3) rfl ?_); refine box_event ?hg (N := 3) ?hd (cs := #[.bool a1_0, .slice A1_1 l1_1.length c1_1]) (t := 24) ?hr ?_; (case hd => rfl); (case hg => rfl); (case hr => first | (go_simp; done) | (go_simp; rfl)); intro gb360 hg w5 hbox hb; have n0_ := Aside0.mk (blk_below (bk BK359) hb); have n1_ := Aside0.mk (below_step bw hb); have n2_ := Aside0.mk (hbox); have n3_ := Aside0.mk ((szL hg)); have n4_ := Aside0.mk ((szL hg)); have n5_ := Aside0.mk ((neL hg BK359)); have n6_ := Aside0.mk ((neG hg BK359)); clear BK359 HB; have BK359 := n0_; have HB := n1_; have BK360 := n2_; have GW360 := n3_; have GE360 := n4_; have NB359_360 := n5_; have NB360_359 := n6_; clear n0_ n1_ n2_ n3_ n4_ n5_ n6_; clear hb hbox hg))
  (try simp only [Act.put, List.setIfInBounds_toArray, List.set_cons_zero, List.set_cons_succ])
  go_cut [5] (fun v5 wc => ∃ (kq : Nat) (x5_2 : Bool), v5 = .bool x5_2 ∧ Aside0 (num_Cmp.j0 kq x5_2 a0_0 l0_1 a1_0 l1_1 = some r) ∧ Aside0 (kq ≤ k) ∧ Aside0 (wc.heap[gb359]? = some (.cells #[.bool a0_0, (.slice A0_1 l0_1.length c0_1)] 24 (0, 0))) ∧ Aside0 (wc.heap[gb360]? = some (.cells #[.bool a1_0, (.slice A1_1 l1_1.length c1_1)] 24 (0, 0))) ∧ Aside0 (Below w.heap.size w wc))
  case first =>
    have H := HC3.out
    clear HC3
    replace H := Option.bind_eq_some_iff.mp H
    obtain ⟨t361, A60, H⟩ := H
    replace H : (if t361 = true then ((num_Sound.f a1_0 l1_1).bind fun t362 => (num_Cmp.j0 k (!t362) a0_0 l0_1 a1_0 l1_1)) else (num_Cmp.j0 k true a0_0 l0_1 a1_0 l1_1)) = some r := H
    have A6 := Aside0.mk A60
    clear A60
    by_cases c7 : t361 = true
    · subst c7
      have H1 : ((num_Sound.f a1_0 l1_1).bind fun t362 => (num_Cmp.j0 k (!t362) a0_0 l0_1 a1_0 l1_1)) = some r := by rw [if_pos rfl] at H; exact H
      clear H
      have H := H1
      clear H1
      replace H := Option.bind_eq_some_iff.mp H
      obtain ⟨t362, A80, H⟩ := H
      replace H : (num_Cmp.j0 k (!t362) a0_0 l0_1 a1_0 l1_1) = some r := H
      have A8 := Aside0.mk A80
      clear A80
      have H' := Aside0.mk H
      clear H
      have hnb9 := NB359_360.out
      have hnc9 := NB360_359.out
      have hcz10_0 : w5.cell? ⟨gb359, 0, none⟩ = some (.bool a0_0) := (blk_cell BK359.out 0).trans rfl
      have hcz10_1 : w5.cell? ⟨gb359, 1, none⟩ = some (.slice A0_1 l0_1.length c0_1) := (blk_cell BK359.out 1).trans rfl
      have hfz10_0 := blk_frozen BK359.out 0
      have hfz10_1 := blk_frozen BK359.out 1
      go_wp2_with (first | ((with_reducible refine gate_callee (f := 32) rfl ?_); refine goesL_ (some 7) rfl rfl Tryd.func32 (by kernel_rfl) rfl #[.agg #[.bool a0_0, .slice A0_1 l0_1.length c0_1]] rfl (by (try simp only [List.map_toArray, List.map_cons, List.map_nil]); first | done | rfl | (simp only [List.length_drop, List.length_take]; rfl)) ?_; (with_reducible refine (num_Sound.calls a0_0 _ _ l0_1 true _ ?side1 ?side2 A6.out).mono ?_); (case side1 => repeat (first | exact (Kd.C_below HR0_1.out HB.out) | (with_reducible refine Kd.C_alloc ?_ _) | (with_reducible refine Kd.C_drewN ?_ _) | (with_reducible refine Kd.C_drew ?_))); (case side2 => exact HC0_1.out); rintro e w11 ⟨rfl, hb⟩; refine ⟨_, rfl, ?_⟩; have n0_ := Aside0.mk (blk_below (bk BK359) hb); have n1_ := Aside0.mk (blk_below (bk BK360) hb); have n2_ := Aside0.mk (below_step bw hb); clear BK359 BK360 HB; have BK359 := n0_; have BK360 := n1_; have HB := n2_; clear n0_ n1_ n2_; (try clear hb); (try clear hb2); (try clear hk); (try clear hi); have hcz12_0 : w11.cell? ⟨gb360, 0, none⟩ = some (.bool a1_0) := (blk_cell BK360.out 0).trans rfl; have hcz12_1 : w11.cell? ⟨gb360, 1, none⟩ = some (.slice A1_1 l1_1.length c1_1) := (blk_cell BK360.out 1).trans rfl; have hfz12_0 := blk_frozen BK360.out 0; have hfz12_1 := blk_frozen BK360.out 1) | (go_at_call 32; (with_reducible refine (num_Sound.calls a1_0 _ _ l1_1 t362 _ ?side1 ?side2 A8.out).mono ?_); (case side1 => repeat (first | exact (Kd.C_below HR1_1.out HB.out) | (with_reducible refine Kd.C_alloc ?_ _) | (with_reducible refine Kd.C_drewN ?_ _) | (with_reducible refine Kd.C_drew ?_))); (case side2 => exact HC1_1.out); rintro e w13 ⟨rfl, hb⟩; have n0_ := Aside0.mk (blk_below (bk BK359) hb); have n1_ := Aside0.mk (blk_below (bk BK360) hb); have n2_ := Aside0.mk (below_step bw hb); clear BK359 BK360 HB; have BK359 := n0_; have BK360 := n1_; have HB := n2_; clear n0_ n1_ n2_; (try clear hb); (try clear hb2); (try clear hk); (try clear hi)))
      go_meet
      case rel => exact ⟨_, (!t362), (by first | rfl | (simp; done) | (simp [*]; done)), H', ⟨by first | omega | exact Nat.le_refl _⟩, ⟨bk BK359⟩, ⟨bk BK360⟩, ⟨bw⟩⟩
    · replace c7 := Bool.eq_false_iff.mpr c7
      subst c7
      have H1 : (num_Cmp.j0 k true a0_0 l0_1 a1_0 l1_1) = some r := by rw [if_neg (show ¬ (false = true) by decide)] at H; exact H
      clear H
      have H := H1
      clear H1
      have H' := Aside0.mk H
      clear H
      have hnb14 := NB359_360.out
      have hnc14 := NB360_359.out
      have hcz15_0 : w5.cell? ⟨gb359, 0, none⟩ = some (.bool a0_0) := (blk_cell BK359.out 0).trans rfl
      have hcz15_1 : w5.cell? ⟨gb359, 1, none⟩ = some (.slice A0_1 l0_1.length c0_1) := (blk_cell BK359.out 1).trans rfl
      have hfz15_0 := blk_frozen BK359.out 0
      have hfz15_1 := blk_frozen BK359.out 1
      go_wp2_with (first | ((with_reducible refine gate_callee (f := 32) rfl ?_); refine goesL_ (some 7) rfl rfl Tryd.func32 (by kernel_rfl) rfl #[.agg #[.bool a0_0, .slice A0_1 l0_1.length c0_1]] rfl (by (try simp only [List.map_toArray, List.map_cons, List.map_nil]); first | done | rfl | (simp only [List.length_drop, List.length_take]; rfl)) ?_; (with_reducible refine (num_Sound.calls a0_0 _ _ l0_1 false _ ?side1 ?side2 A6.out).mono ?_); (case side1 => repeat (first | exact (Kd.C_below HR0_1.out HB.out) | (with_reducible refine Kd.C_alloc ?_ _) | (with_reducible refine Kd.C_drewN ?_ _) | (with_reducible refine Kd.C_drew ?_))); (case side2 => exact HC0_1.out); rintro e w16 ⟨rfl, hb⟩; refine ⟨_, rfl, ?_⟩; have n0_ := Aside0.mk (blk_below (bk BK359) hb); have n1_ := Aside0.mk (blk_below (bk BK360) hb); have n2_ := Aside0.mk (below_step bw hb); clear BK359 BK360 HB; have BK359 := n0_; have BK360 := n1_; have HB := n2_; clear n0_ n1_ n2_; (try clear hb); (try clear hb2); (try clear hk); (try clear hi)))
      go_meet
      case rel => exact ⟨_, (true), (by first | rfl | (simp; done) | (simp [*]; done)), H', ⟨by first | omega | exact Nat.le_refl _⟩, ⟨bk BK359⟩, ⟨bk BK360⟩, ⟨bw⟩⟩
  case rest =>
    clear HC3
    try clear c1
    try clear c2
    try clear p2
    try clear c3
    try clear c7
    try clear c9
    try clear c14
    try clear hcz10_0
    try clear hcz10_1
    try clear hcz12_0
    try clear hcz12_1
    try clear hcz15_0
    try clear hcz15_1
    try clear hfz10_0
    try clear hfz10_1
    try clear hfz12_0
    try clear hfz12_1
    try clear hfz15_0
    try clear hfz15_1
    obtain ⟨kq, x5_2, rfl, HA, HJ2, BK359, BK360, HB⟩ := hcut
    cases kq with
    | zero => exact absurd HA.out (by simp [num_Cmp.j0])
    | succ kj2 =>
      have H := HA.out
      clear HA
      simp only [num_Cmp.j0] at H
      by_cases c17 : x5_2 = true
      · subst c17
        have H1 : (some 0) = some r := by rw [if_pos rfl] at H; exact H
        clear H
        have H := H1
        clear H1
        obtain rfl := Option.some.inj H
        go_wp2
        go_ret
        exact ⟨by first | rfl | (simp [errW_none, errW_some] <;> rfl) | (simp [*, errW_none, errW_some] <;> rfl), bw⟩
      · replace c17 := Bool.eq_false_iff.mpr c17
        subst c17
        have H1 : (if a0_0 = true then (num_Cmp.j1 kj2 a1_0 a0_0 l0_1 a1_0 l1_1) else (num_Cmp.j1 kj2 false a0_0 l0_1 a1_0 l1_1)) = some r := by rw [if_neg (show ¬ (false = true) by decide)] at H; exact H
        clear H
        have H := H1
        clear H1
        have HC18 := Aside0.mk H
        clear H
        go_upto_region 3 with (fail)
        go_cut [14] (fun v14 wc => ∃ (kq : Nat) (x14_17 : Bool), v14 = .bool x14_17 ∧ Aside0 (num_Cmp.j1 kq x14_17 a0_0 l0_1 a1_0 l1_1 = some r) ∧ Aside0 (kq ≤ kj2) ∧ Aside0 (wc.heap[gb359]? = some (.cells #[.bool a0_0, (.slice A0_1 l0_1.length c0_1)] 24 (0, 0))) ∧ Aside0 (wc.heap[gb360]? = some (.cells #[.bool a1_0, (.slice A1_1 l1_1.length c1_1)] 24 (0, 0))) ∧ Aside0 (Below w.heap.size w wc))
        case first =>
          have H := HC18.out
          clear HC18
          by_cases c19 : a0_0 = true
          · subst c19
            have H1 : (num_Cmp.j1 kj2 a1_0 true l0_1 a1_0 l1_1) = some r := by rw [if_pos rfl] at H; exact H
            clear H
            have H := H1
            clear H1
            have H' := Aside0.mk H
            clear H
            have hnb20 := NB359_360.out
            have hnc20 := NB360_359.out
            have hcz21_0 : wc.cell? ⟨gb359, 0, none⟩ = some (.bool true) := (blk_cell BK359.out 0).trans rfl
            have hcz21_1 : wc.cell? ⟨gb359, 1, none⟩ = some (.slice A0_1 l0_1.length c0_1) := (blk_cell BK359.out 1).trans rfl
            have hfz21_0 := blk_frozen BK359.out 0
            have hfz21_1 := blk_frozen BK359.out 1
            have hcz22_0 : wc.cell? ⟨gb360, 0, none⟩ = some (.bool a1_0) := (blk_cell BK360.out 0).trans rfl
            have hcz22_1 : wc.cell? ⟨gb360, 1, none⟩ = some (.slice A1_1 l1_1.length c1_1) := (blk_cell BK360.out 1).trans rfl
            have hfz22_0 := blk_frozen BK360.out 0
            have hfz22_1 := blk_frozen BK360.out 1
            go_wp2
            go_meet
            case rel => exact ⟨_, (a1_0), (by first | rfl | (simp; done) | (simp [*]; done)), H', ⟨by have := HJ2.out; first | omega | exact Nat.le_refl _⟩, ⟨bk BK359⟩, ⟨bk BK360⟩, ⟨bw⟩⟩
          · replace c19 := Bool.eq_false_iff.mpr c19
            subst c19
            have H1 : (num_Cmp.j1 kj2 false false l0_1 a1_0 l1_1) = some r := by rw [if_neg (show ¬ (false = true) by decide)] at H; exact H
            clear H
            have H := H1
            clear H1
            have H' := Aside0.mk H
            clear H
            have hnb23 := NB359_360.out
            have hnc23 := NB360_359.out
            have hcz24_0 : wc.cell? ⟨gb359, 0, none⟩ = some (.bool false) := (blk_cell BK359.out 0).trans rfl
            have hcz24_1 : wc.cell? ⟨gb359, 1, none⟩ = some (.slice A0_1 l0_1.length c0_1) := (blk_cell BK359.out 1).trans rfl
            have hfz24_0 := blk_frozen BK359.out 0
            have hfz24_1 := blk_frozen BK359.out 1
            go_wp2
            go_meet
            case rel => exact ⟨_, (false), (by first | rfl | (simp; done) | (simp [*]; done)), H', ⟨by have := HJ2.out; first | omega | exact Nat.le_refl _⟩, ⟨bk BK359⟩, ⟨bk BK360⟩, ⟨bw⟩⟩
        case rest =>
          clear HC18
          try clear c1
          try clear c2
          try clear p2
          try clear c3
          try clear c7
          try clear c9
          try clear c14
          try clear c17
          try clear c19
          try clear c20
          try clear c22
          try clear c23
          try clear hcz10_0
          try clear hcz10_1
          try clear hcz12_0
          try clear hcz12_1
          try clear hcz15_0
          try clear hcz15_1
          try clear hcz21_0
          try clear hcz21_1
          try clear hcz22_0
          try clear hcz22_1
          try clear hcz24_0
          try clear hcz24_1
          try clear hfz10_0
          try clear hfz10_1
          try clear hfz12_0
          try clear hfz12_1
          try clear hfz15_0
          try clear hfz15_1
          try clear hfz21_0
          try clear hfz21_1
          try clear hfz22_0
          try clear hfz22_1
          try clear hfz24_0
          try clear hfz24_1
          try clear p2
          obtain ⟨kq, x14_17, rfl, HA, HJ17, BK359, BK360, HB⟩ := hcut
          cases kq with
          | zero => exact absurd HA.out (by simp [num_Cmp.j1])
          | succ kj17 =>
            have H := HA.out
            clear HA
            simp only [num_Cmp.j1] at H
            by_cases c25 : x14_17 = true
            · subst c25
              have H1 : ((num_size.f kj17 l1_1 l0_1).bind fun t363 => (some t363)) = some r := by rw [if_pos rfl] at H; exact H
              clear H
              have H := H1
              clear H1
              replace H := Option.bind_eq_some_iff.mp H
              obtain ⟨t363, A260, H⟩ := H
              replace H : (some t363) = some r := H
              have A26 := Aside0.mk A260
              clear A260
              obtain rfl := Option.some.inj H
              have hnb27 := NB360_359.out
              have hnc27 := NB359_360.out
              have hcz28_0 : wc.cell? ⟨gb360, 0, none⟩ = some (.bool a1_0) := (blk_cell BK360.out 0).trans rfl
              have hcz28_1 : wc.cell? ⟨gb360, 1, none⟩ = some (.slice A1_1 l1_1.length c1_1) := (blk_cell BK360.out 1).trans rfl
              have hfz28_0 := blk_frozen BK360.out 0
              have hfz28_1 := blk_frozen BK360.out 1
              have hcz29_0 : wc.cell? ⟨gb359, 0, none⟩ = some (.bool a0_0) := (blk_cell BK359.out 0).trans rfl
              have hcz29_1 : wc.cell? ⟨gb359, 1, none⟩ = some (.slice A0_1 l0_1.length c0_1) := (blk_cell BK359.out 1).trans rfl
              have hfz29_0 := blk_frozen BK359.out 0
              have hfz29_1 := blk_frozen BK359.out 1
              go_wp2_with (first | ((with_reducible refine gate_callee (f := 43) rfl ?_); refine goesL_ (some 25) rfl rfl Tryd.func43 (by kernel_rfl) rfl #[.slice A1_1 l1_1.length c1_1, .slice A0_1 l0_1.length c0_1] rfl (by (try simp only [List.map_toArray, List.map_cons, List.map_nil]); first | done | rfl | (simp only [List.length_drop, List.length_take]; rfl)) ?_; (with_reducible refine (num_size.calls kj17 _ _ l1_1 _ _ l0_1 t363 _ ?side1 ?side2 ?side3 ?side4 A26.out).mono ?_); (case side1 => repeat (first | exact (Kd.C_below HR1_1.out HB.out) | (with_reducible refine Kd.C_alloc ?_ _) | (with_reducible refine Kd.C_drewN ?_ _) | (with_reducible refine Kd.C_drew ?_))); (case side2 => exact HC1_1.out); (case side3 => repeat (first | exact (Kd.C_below HR0_1.out HB.out) | (with_reducible refine Kd.C_alloc ?_ _) | (with_reducible refine Kd.C_drewN ?_ _) | (with_reducible refine Kd.C_drew ?_))); (case side4 => exact HC0_1.out); rintro e w' ⟨rfl, ⟨nd, rfl⟩⟩; refine ⟨_, rfl, ?_⟩))
              go_ret
              exact ⟨by first | rfl | (simp [errW_none, errW_some] <;> rfl) | (simp [*, errW_none, errW_some] <;> rfl), bw⟩
            · replace c25 := Bool.eq_false_iff.mpr c25
              subst c25
              have H1 : (if a0_0 = true then (some (-1)) else (if a1_0 = true then (some 1) else ((num_size.f kj17 l0_1 l1_1).bind fun t364 => (some t364)))) = some r := by rw [if_neg (show ¬ (false = true) by decide)] at H; exact H
              clear H
              have H := H1
              clear H1
              by_cases c30 : a0_0 = true
              · subst c30
                have H1 : (some (-1)) = some r := by rw [if_pos rfl] at H; exact H
                clear H
                have H := H1
                clear H1
                obtain rfl := Option.some.inj H
                have hnb31 := NB359_360.out
                have hnc31 := NB360_359.out
                have hcz32_0 : wc.cell? ⟨gb359, 0, none⟩ = some (.bool true) := (blk_cell BK359.out 0).trans rfl
                have hcz32_1 : wc.cell? ⟨gb359, 1, none⟩ = some (.slice A0_1 l0_1.length c0_1) := (blk_cell BK359.out 1).trans rfl
                have hfz32_0 := blk_frozen BK359.out 0
                have hfz32_1 := blk_frozen BK359.out 1
                go_wp2
                go_ret
                exact ⟨by first | rfl | (simp [errW_none, errW_some] <;> rfl) | (simp [*, errW_none, errW_some] <;> rfl), bw⟩
              · replace c30 := Bool.eq_false_iff.mpr c30
                subst c30
                have H1 : (if a1_0 = true then (some 1) else ((num_size.f kj17 l0_1 l1_1).bind fun t364 => (some t364))) = some r := by rw [if_neg (show ¬ (false = true) by decide)] at H; exact H
                clear H
                have H := H1
                clear H1
                by_cases c33 : a1_0 = true
                · subst c33
                  have H1 : (some 1) = some r := by rw [if_pos rfl] at H; exact H
                  clear H
                  have H := H1
                  clear H1
                  obtain rfl := Option.some.inj H
                  have hnb34 := NB359_360.out
                  have hnc34 := NB360_359.out
                  have hcz35_0 : wc.cell? ⟨gb359, 0, none⟩ = some (.bool false) := (blk_cell BK359.out 0).trans rfl
                  have hcz35_1 : wc.cell? ⟨gb359, 1, none⟩ = some (.slice A0_1 l0_1.length c0_1) := (blk_cell BK359.out 1).trans rfl
                  have hfz35_0 := blk_frozen BK359.out 0
                  have hfz35_1 := blk_frozen BK359.out 1
                  have hcz36_0 : wc.cell? ⟨gb360, 0, none⟩ = some (.bool true) := (blk_cell BK360.out 0).trans rfl
                  have hcz36_1 : wc.cell? ⟨gb360, 1, none⟩ = some (.slice A1_1 l1_1.length c1_1) := (blk_cell BK360.out 1).trans rfl
                  have hfz36_0 := blk_frozen BK360.out 0
                  have hfz36_1 := blk_frozen BK360.out 1
                  go_wp2
                  go_ret
                  exact ⟨by first | rfl | (simp [errW_none, errW_some] <;> rfl) | (simp [*, errW_none, errW_some] <;> rfl), bw⟩
                · replace c33 := Bool.eq_false_iff.mpr c33
                  subst c33
                  have H1 : ((num_size.f kj17 l0_1 l1_1).bind fun t364 => (some t364)) = some r := by rw [if_neg (show ¬ (false = true) by decide)] at H; exact H
                  clear H
                  have H := H1
                  clear H1
                  replace H := Option.bind_eq_some_iff.mp H
                  obtain ⟨t364, A370, H⟩ := H
                  replace H : (some t364) = some r := H
                  have A37 := Aside0.mk A370
                  clear A370
                  obtain rfl := Option.some.inj H
                  have hnb38 := NB359_360.out
                  have hnc38 := NB360_359.out
                  have hcz39_0 : wc.cell? ⟨gb359, 0, none⟩ = some (.bool false) := (blk_cell BK359.out 0).trans rfl
                  have hcz39_1 : wc.cell? ⟨gb359, 1, none⟩ = some (.slice A0_1 l0_1.length c0_1) := (blk_cell BK359.out 1).trans rfl
                  have hfz39_0 := blk_frozen BK359.out 0
                  have hfz39_1 := blk_frozen BK359.out 1
                  have hcz40_0 : wc.cell? ⟨gb360, 0, none⟩ = some (.bool false) := (blk_cell BK360.out 0).trans rfl
                  have hcz40_1 : wc.cell? ⟨gb360, 1, none⟩ = some (.slice A1_1 l1_1.length c1_1) := (blk_cell BK360.out 1).trans rfl
                  have hfz40_0 := blk_frozen BK360.out 0
                  have hfz40_1 := blk_frozen BK360.out 1
                  go_wp2_with (first | ((with_reducible refine gate_callee (f := 43) rfl ?_); refine goesL_ (some 36) rfl rfl Tryd.func43 (by kernel_rfl) rfl #[.slice A0_1 l0_1.length c0_1, .slice A1_1 l1_1.length c1_1] rfl (by (try simp only [List.map_toArray, List.map_cons, List.map_nil]); first | done | rfl | (simp only [List.length_drop, List.length_take]; rfl)) ?_; (with_reducible refine (num_size.calls kj17 _ _ l0_1 _ _ l1_1 t364 _ ?side1 ?side2 ?side3 ?side4 A37.out).mono ?_); (case side1 => repeat (first | exact (Kd.C_below HR0_1.out HB.out) | (with_reducible refine Kd.C_alloc ?_ _) | (with_reducible refine Kd.C_drewN ?_ _) | (with_reducible refine Kd.C_drew ?_))); (case side2 => exact HC0_1.out); (case side3 => repeat (first | exact (Kd.C_below HR1_1.out HB.out) | (with_reducible refine Kd.C_alloc ?_ _) | (with_reducible refine Kd.C_drewN ?_ _) | (with_reducible refine Kd.C_drew ?_))); (case side4 => exact HC1_1.out); rintro e w' ⟨rfl, ⟨nd, rfl⟩⟩; refine ⟨_, rfl, ?_⟩))
                  go_ret
                  exact ⟨by first | rfl | (simp [errW_none, errW_some] <;> rfl) | (simp [*, errW_none, errW_some] <;> rfl), bw⟩
def marginaliaref01_Cmp.j0 : Nat → Bool → Bool → List Int → Bool → List Int → Option (Int)
  | 0, _, _, _, _, _ => none
  | k + 1, x13, x366000, x366001, x367000, x367001 => if x13 = true then (some 0) else (if (x366000 != x367000) = true then (if x366000 = true then (some (-1)) else (some 1)) else ((marginaliaref01_Digits.f k x366000 x366001).bind fun t369 => ((marginaliaref01_Digits.f k x367000 x367001).bind fun t372 => ((marginaliaref01_more.f k t369 t372).bind fun t375 => (if x366000 = true then (some (wrap64 (-t375))) else (some t375))))))
def marginaliaref01_Cmp.f (k : Nat) (a0_0 : Bool) (l0_1 : List Int) (a1_0 : Bool) (l1_1 : List Int) : Option (Int) := (marginaliaref01_Sound.f k a0_0 l0_1).bind fun t367 => (if t367 = true then ((marginaliaref01_Sound.f k a1_0 l1_1).bind fun t368 => (marginaliaref01_Cmp.j0 k (!t368) a0_0 l0_1 a1_0 l1_1)) else (marginaliaref01_Cmp.j0 k true a0_0 l0_1 a1_0 l1_1))
set_option maxHeartbeats 8000000 in
set_option maxRecDepth 100000 in
theorem marginaliaref01_Cmp.calls (k : Nat) (a0_0 : Bool) (A0_1 : Option Addr) (c0_1 : Nat) (l0_1 : List Int) (a1_0 : Bool) (A1_1 : Option Addr) (c1_1 : Nat) (l1_1 : List Int) (r : Int) (w : World) (hr0_1 : Kd.C (Kd.int .u32) w A0_1 l0_1.length l0_1) (hc0_1 : l0_1.length ≤ c0_1) (hr1_1 : Kd.C (Kd.int .u32) w A1_1 l1_1.length l1_1) (hc1_1 : l1_1.length ≤ c1_1) (h : marginaliaref01_Cmp.f k a0_0 l0_1 a1_0 l1_1 = some r) :
    Calls Tryd.prog 23 #[.agg #[.bool a0_0, .slice A0_1 l0_1.length c0_1], .agg #[.bool a1_0, .slice A1_1 l1_1.length c1_1]] w fun e w' => e = .returned (.int .i64 r) ∧ Below w.heap.size w w' := by
  have hu24 := Tryd.underlying24
  have HR0_1 := Aside0.mk hr0_1
  have HC0_1 := Aside0.mk hc0_1
  clear hr0_1 hc0_1
  have HR1_1 := Aside0.mk hr1_1
  have HC1_1 := Aside0.mk hc1_1
  clear hr1_1 hc1_1
  have HB := Aside0.mk (Below.refl w.heap.size w)
  have H : ((marginaliaref01_Sound.f k a0_0 l0_1).bind fun t367 => (if t367 = true then ((marginaliaref01_Sound.f k a1_0 l1_1).bind fun t368 => (marginaliaref01_Cmp.j0 k (!t368) a0_0 l0_1 a1_0 l1_1)) else (marginaliaref01_Cmp.j0 k true a0_0 l0_1 a1_0 l1_1))) = some r := h
  clear h
  have HC3 := Aside0.mk H
  clear H
  go_enter Tryd.func23, Tryd.ntmps23
  go_upto_region 1 with (first | ((with_reducible refine gate_dst (N := 2) rfl ?_); refine box_event ?hg (N := 2) ?hd (cs := #[.bool a0_0, .slice A0_1 l0_1.length c0_1]) (t := 24) ?hr ?_; (case hd => rfl); (case hg => rfl); (case hr => first | (go_simp; done) | (go_simp; rfl)); intro gb365 hg w4 hbox hb; have n0_ := Aside0.mk (below_step bw hb); have n1_ := Aside0.mk (hbox); have n2_ := Aside0.mk ((szL hg)); have n3_ := Aside0.mk ((szL hg)); clear HB; have HB := n0_; have BK365 := n1_; have GW365 := n2_; have GE365 := n3_; clear n0_ n1_ n2_ n3_; clear hb hbox hg) | ((with_reducible refine gate_dst (N := 3) rfl ?_); refine box_event ?hg (N := 3) ?hd (cs := #[.bool a1_0, .slice A1_1 l1_1.length c1_1]) (t := 24) ?hr ?_; (case hd => rfl); (case hg => rfl); (case hr => first | (go_simp; done) | (go_simp; rfl)); intro gb366 hg w5 hbox hb; have n0_ := Aside0.mk (blk_below (bk BK365) hb); have n1_ := Aside0.mk (below_step bw hb); have n2_ := Aside0.mk (hbox); have n3_ := Aside0.mk ((szL hg)); have n4_ := Aside0.mk ((szL hg)); have n5_ := Aside0.mk ((neL hg BK365)); have n6_ := Aside0.mk ((neG hg BK365)); clear BK365 HB; have BK365 := n0_; have HB := n1_; have BK366 := n2_; have GW366 := n3_; have GE366 := n4_; have NB365_366 := n5_; have NB366_365 := n6_; clear n0_ n1_ n2_ n3_ n4_ n5_ n6_; clear hb hbox hg))
  (try simp only [Act.put, List.setIfInBounds_toArray, List.set_cons_zero, List.set_cons_succ])
  go_cut [13] (fun v13 wc => ∃ (kq : Nat) (x13_2 : Bool), v13 = .bool x13_2 ∧ Aside0 (marginaliaref01_Cmp.j0 kq x13_2 a0_0 l0_1 a1_0 l1_1 = some r) ∧ Aside0 (kq ≤ k) ∧ Aside0 (wc.heap[gb365]? = some (.cells #[.bool a0_0, (.slice A0_1 l0_1.length c0_1)] 24 (0, 0))) ∧ Aside0 (wc.heap[gb366]? = some (.cells #[.bool a1_0, (.slice A1_1 l1_1.length c1_1)] 24 (0, 0))) ∧ Aside0 (Below w.heap.size w wc))
  case first =>
    have H := HC3.out
    clear HC3
    replace H := Option.bind_eq_some_iff.mp H
    obtain ⟨t367, A60, H⟩ := H
    replace H : (if t367 = true then ((marginaliaref01_Sound.f k a1_0 l1_1).bind fun t368 => (marginaliaref01_Cmp.j0 k (!t368) a0_0 l0_1 a1_0 l1_1)) else (marginaliaref01_Cmp.j0 k true a0_0 l0_1 a1_0 l1_1)) = some r := H
    have A6 := Aside0.mk A60
    clear A60
    by_cases c7 : t367 = true
    · subst c7
      have H1 : ((marginaliaref01_Sound.f k a1_0 l1_1).bind fun t368 => (marginaliaref01_Cmp.j0 k (!t368) a0_0 l0_1 a1_0 l1_1)) = some r := by rw [if_pos rfl] at H; exact H
      clear H
      have H := H1
      clear H1
      replace H := Option.bind_eq_some_iff.mp H
      obtain ⟨t368, A80, H⟩ := H
      replace H : (marginaliaref01_Cmp.j0 k (!t368) a0_0 l0_1 a1_0 l1_1) = some r := H
      have A8 := Aside0.mk A80
      clear A80
      have H' := Aside0.mk H
      clear H
      have hnb9 := NB365_366.out
      have hnc9 := NB366_365.out
      have hcz10_0 : w5.cell? ⟨gb365, 0, none⟩ = some (.bool a0_0) := (blk_cell BK365.out 0).trans rfl
      have hcz10_1 : w5.cell? ⟨gb365, 1, none⟩ = some (.slice A0_1 l0_1.length c0_1) := (blk_cell BK365.out 1).trans rfl
      have hfz10_0 := blk_frozen BK365.out 0
      have hfz10_1 := blk_frozen BK365.out 1
      go_wp2_with (first | ((with_reducible refine gate_callee (f := 24) rfl ?_); refine goesL_ (some 7) rfl rfl Tryd.func24 (by kernel_rfl) rfl #[.agg #[.bool a0_0, .slice A0_1 l0_1.length c0_1]] rfl (by (try simp only [List.map_toArray, List.map_cons, List.map_nil]); first | done | rfl | (simp only [List.length_drop, List.length_take]; rfl)) ?_; (with_reducible refine (marginaliaref01_Sound.calls k a0_0 _ _ l0_1 true _ ?side1 ?side2 A6.out).mono ?_); (case side1 => repeat (first | exact (Kd.C_below HR0_1.out HB.out) | (with_reducible refine Kd.C_alloc ?_ _) | (with_reducible refine Kd.C_drewN ?_ _) | (with_reducible refine Kd.C_drew ?_))); (case side2 => exact HC0_1.out); rintro e w11 ⟨rfl, hb⟩; refine ⟨_, rfl, ?_⟩; have n0_ := Aside0.mk (blk_below (bk BK365) hb); have n1_ := Aside0.mk (blk_below (bk BK366) hb); have n2_ := Aside0.mk (below_step bw hb); clear BK365 BK366 HB; have BK365 := n0_; have BK366 := n1_; have HB := n2_; clear n0_ n1_ n2_; (try clear hb); (try clear hb2); (try clear hk); (try clear hi); have hcz12_0 : w11.cell? ⟨gb366, 0, none⟩ = some (.bool a1_0) := (blk_cell BK366.out 0).trans rfl; have hcz12_1 : w11.cell? ⟨gb366, 1, none⟩ = some (.slice A1_1 l1_1.length c1_1) := (blk_cell BK366.out 1).trans rfl; have hfz12_0 := blk_frozen BK366.out 0; have hfz12_1 := blk_frozen BK366.out 1) | (go_at_call 24; (with_reducible refine (marginaliaref01_Sound.calls k a1_0 _ _ l1_1 t368 _ ?side1 ?side2 A8.out).mono ?_); (case side1 => repeat (first | exact (Kd.C_below HR1_1.out HB.out) | (with_reducible refine Kd.C_alloc ?_ _) | (with_reducible refine Kd.C_drewN ?_ _) | (with_reducible refine Kd.C_drew ?_))); (case side2 => exact HC1_1.out); rintro e w13 ⟨rfl, hb⟩; have n0_ := Aside0.mk (blk_below (bk BK365) hb); have n1_ := Aside0.mk (blk_below (bk BK366) hb); have n2_ := Aside0.mk (below_step bw hb); clear BK365 BK366 HB; have BK365 := n0_; have BK366 := n1_; have HB := n2_; clear n0_ n1_ n2_; (try clear hb); (try clear hb2); (try clear hk); (try clear hi)))
      go_meet
      case rel => exact ⟨_, (!t368), (by first | rfl | (simp; done) | (simp [*]; done)), H', ⟨by first | omega | exact Nat.le_refl _⟩, ⟨bk BK365⟩, ⟨bk BK366⟩, ⟨bw⟩⟩
    · replace c7 := Bool.eq_false_iff.mpr c7
      subst c7
      have H1 : (marginaliaref01_Cmp.j0 k true a0_0 l0_1 a1_0 l1_1) = some r := by rw [if_neg (show ¬ (false = true) by decide)] at H; exact H
      clear H
      have H := H1
      clear H1
      have H' := Aside0.mk H
      clear H
      have hnb14 := NB365_366.out
      have hnc14 := NB366_365.out
      have hcz15_0 : w5.cell? ⟨gb365, 0, none⟩ = some (.bool a0_0) := (blk_cell BK365.out 0).trans rfl
      have hcz15_1 : w5.cell? ⟨gb365, 1, none⟩ = some (.slice A0_1 l0_1.length c0_1) := (blk_cell BK365.out 1).trans rfl
      have hfz15_0 := blk_frozen BK365.out 0
      have hfz15_1 := blk_frozen BK365.out 1
      go_wp2_with (first | ((with_reducible refine gate_callee (f := 24) rfl ?_); refine goesL_ (some 7) rfl rfl Tryd.func24 (by kernel_rfl) rfl #[.agg #[.bool a0_0, .slice A0_1 l0_1.length c0_1]] rfl (by (try simp only [List.map_toArray, List.map_cons, List.map_nil]); first | done | rfl | (simp only [List.length_drop, List.length_take]; rfl)) ?_; (with_reducible refine (marginaliaref01_Sound.calls k a0_0 _ _ l0_1 false _ ?side1 ?side2 A6.out).mono ?_); (case side1 => repeat (first | exact (Kd.C_below HR0_1.out HB.out) | (with_reducible refine Kd.C_alloc ?_ _) | (with_reducible refine Kd.C_drewN ?_ _) | (with_reducible refine Kd.C_drew ?_))); (case side2 => exact HC0_1.out); rintro e w16 ⟨rfl, hb⟩; refine ⟨_, rfl, ?_⟩; have n0_ := Aside0.mk (blk_below (bk BK365) hb); have n1_ := Aside0.mk (blk_below (bk BK366) hb); have n2_ := Aside0.mk (below_step bw hb); clear BK365 BK366 HB; have BK365 := n0_; have BK366 := n1_; have HB := n2_; clear n0_ n1_ n2_; (try clear hb); (try clear hb2); (try clear hk); (try clear hi)))
      go_meet
      case rel => exact ⟨_, (true), (by first | rfl | (simp; done) | (simp [*]; done)), H', ⟨by first | omega | exact Nat.le_refl _⟩, ⟨bk BK365⟩, ⟨bk BK366⟩, ⟨bw⟩⟩
  case rest =>
    clear HC3
    try clear c1
    try clear c2
    try clear p2
    try clear c7
    try clear c9
    try clear c14
    try clear hcz10_0
    try clear hcz10_1
    try clear hcz12_0
    try clear hcz12_1
    try clear hcz15_0
    try clear hcz15_1
    try clear hfz10_0
    try clear hfz10_1
    try clear hfz12_0
    try clear hfz12_1
    try clear hfz15_0
    try clear hfz15_1
    obtain ⟨kq, x13_2, rfl, HA, HJ2, BK365, BK366, HB⟩ := hcut
    cases kq with
    | zero => exact absurd HA.out (by simp [marginaliaref01_Cmp.j0])
    | succ kj2 =>
      have H := HA.out
      clear HA
      simp only [marginaliaref01_Cmp.j0] at H
      by_cases c17 : x13_2 = true
      · subst c17
        have H1 : (some 0) = some r := by rw [if_pos rfl] at H; exact H
        clear H
        have H := H1
        clear H1
        obtain rfl := Option.some.inj H
        go_wp2
        go_ret
        exact ⟨by first | rfl | (simp [errW_none, errW_some] <;> rfl) | (simp [*, errW_none, errW_some] <;> rfl), bw⟩
      · replace c17 := Bool.eq_false_iff.mpr c17
        subst c17
        have H1 : (if (a0_0 != a1_0) = true then (if a0_0 = true then (some (-1)) else (some 1)) else ((marginaliaref01_Digits.f kj2 a0_0 l0_1).bind fun t369 => ((marginaliaref01_Digits.f kj2 a1_0 l1_1).bind fun t372 => ((marginaliaref01_more.f kj2 t369 t372).bind fun t375 => (if a0_0 = true then (some (wrap64 (-t375))) else (some t375)))))) = some r := by rw [if_neg (show ¬ (false = true) by decide)] at H; exact H
        clear H
        have H := H1
        clear H1
        by_cases c18 : (a0_0 != a1_0) = true
        · rw [if_pos c18] at H
          have c18b0 : (a0_0 != a1_0) = true := c18
          (try (have c18b1 : decide (a0_0 = a1_0) = false := by simpa using c18))
          (try (have c18b2 : (a0_0 == a1_0) = false := by simpa using c18))
          (try (have c18b3 : ¬ (a0_0 = a1_0) := by simpa using c18))
          clear c18
          by_cases c19 : a0_0 = true
          · subst c19
            have H1 : (some (-1)) = some r := by rw [if_pos rfl] at H; exact H
            clear H
            have H := H1
            clear H1
            obtain rfl := Option.some.inj H
            have hnb20 := NB365_366.out
            have hnc20 := NB366_365.out
            have hcz21_0 : wc.cell? ⟨gb365, 0, none⟩ = some (.bool true) := (blk_cell BK365.out 0).trans rfl
            have hcz21_1 : wc.cell? ⟨gb365, 1, none⟩ = some (.slice A0_1 l0_1.length c0_1) := (blk_cell BK365.out 1).trans rfl
            have hfz21_0 := blk_frozen BK365.out 0
            have hfz21_1 := blk_frozen BK365.out 1
            have hcz22_0 : wc.cell? ⟨gb366, 0, none⟩ = some (.bool a1_0) := (blk_cell BK366.out 0).trans rfl
            have hcz22_1 : wc.cell? ⟨gb366, 1, none⟩ = some (.slice A1_1 l1_1.length c1_1) := (blk_cell BK366.out 1).trans rfl
            have hfz22_0 := blk_frozen BK366.out 0
            have hfz22_1 := blk_frozen BK366.out 1
            go_wp2
            go_ret
            exact ⟨by first | rfl | (simp [errW_none, errW_some] <;> rfl) | (simp [*, errW_none, errW_some] <;> rfl), bw⟩
          · replace c19 := Bool.eq_false_iff.mpr c19
            subst c19
            have H1 : (some 1) = some r := by rw [if_neg (show ¬ (false = true) by decide)] at H; exact H
            clear H
            have H := H1
            clear H1
            obtain rfl := Option.some.inj H
            have hnb23 := NB365_366.out
            have hnc23 := NB366_365.out
            have hcz24_0 : wc.cell? ⟨gb365, 0, none⟩ = some (.bool false) := (blk_cell BK365.out 0).trans rfl
            have hcz24_1 : wc.cell? ⟨gb365, 1, none⟩ = some (.slice A0_1 l0_1.length c0_1) := (blk_cell BK365.out 1).trans rfl
            have hfz24_0 := blk_frozen BK365.out 0
            have hfz24_1 := blk_frozen BK365.out 1
            have hcz25_0 : wc.cell? ⟨gb366, 0, none⟩ = some (.bool a1_0) := (blk_cell BK366.out 0).trans rfl
            have hcz25_1 : wc.cell? ⟨gb366, 1, none⟩ = some (.slice A1_1 l1_1.length c1_1) := (blk_cell BK366.out 1).trans rfl
            have hfz25_0 := blk_frozen BK366.out 0
            have hfz25_1 := blk_frozen BK366.out 1
            go_wp2
            go_ret
            exact ⟨by first | rfl | (simp [errW_none, errW_some] <;> rfl) | (simp [*, errW_none, errW_some] <;> rfl), bw⟩
        · rw [if_neg c18] at H
          have c18b0 : (a0_0 != a1_0) = false := by simpa using c18
          (try (have c18b1 : decide (a0_0 = a1_0) = true := by simpa using c18))
          (try (have c18b2 : (a0_0 == a1_0) = true := by simpa using c18))
          clear c18
          replace H := Option.bind_eq_some_iff.mp H
          obtain ⟨t369, A260, H⟩ := H
          replace H : ((marginaliaref01_Digits.f kj2 a1_0 l1_1).bind fun t372 => ((marginaliaref01_more.f kj2 t369 t372).bind fun t375 => (if a0_0 = true then (some (wrap64 (-t375))) else (some t375)))) = some r := H
          have A26 := Aside0.mk A260
          clear A260
          replace H := Option.bind_eq_some_iff.mp H
          obtain ⟨t372, A270, H⟩ := H
          replace H : ((marginaliaref01_more.f kj2 t369 t372).bind fun t375 => (if a0_0 = true then (some (wrap64 (-t375))) else (some t375))) = some r := H
          have A27 := Aside0.mk A270
          clear A270
          replace H := Option.bind_eq_some_iff.mp H
          obtain ⟨t375, A280, H⟩ := H
          replace H : (if a0_0 = true then (some (wrap64 (-t375))) else (some t375)) = some r := H
          have A28 := Aside0.mk A280
          clear A280
          by_cases c29 : a0_0 = true
          · subst c29
            have H1 : (some (wrap64 (-t375))) = some r := by rw [if_pos rfl] at H; exact H
            clear H
            have H := H1
            clear H1
            obtain rfl := Option.some.inj H
            have hnb30 := NB365_366.out
            have hnc30 := NB366_365.out
            have hcz31_0 : wc.cell? ⟨gb365, 0, none⟩ = some (.bool true) := (blk_cell BK365.out 0).trans rfl
            have hcz31_1 : wc.cell? ⟨gb365, 1, none⟩ = some (.slice A0_1 l0_1.length c0_1) := (blk_cell BK365.out 1).trans rfl
            have hfz31_0 := blk_frozen BK365.out 0
            have hfz31_1 := blk_frozen BK365.out 1
            have hcz32_0 : wc.cell? ⟨gb366, 0, none⟩ = some (.bool a1_0) := (blk_cell BK366.out 0).trans rfl
            have hcz32_1 : wc.cell? ⟨gb366, 1, none⟩ = some (.slice A1_1 l1_1.length c1_1) := (blk_cell BK366.out 1).trans rfl
            have hfz32_0 := blk_frozen BK366.out 0
            have hfz32_1 := blk_frozen BK366.out 1
            try go_wp2
            have n0_ := Aside0.mk (blk_drew BK365.out)
            have n1_ := Aside0.mk (blk_drew BK366.out)
            have n2_ := Aside0.mk (below_drew1 HB.out)
            clear BK365 BK366 HB
            have BK365 := n0_
            have BK366 := n1_
            have HB := n2_
            clear n0_ n1_ n2_
            refine start_ (n := 6) (S := fun w' => w'.cell? ⟨gb365, 0, none⟩ = some (.bool true) ∧ w'.cell? ⟨gb365, 1, none⟩ = some (.slice A0_1 l0_1.length c0_1) ∧ w'.cell? ⟨gb366, 0, none⟩ = some (.bool a1_0) ∧ w'.cell? ⟨gb366, 1, none⟩ = some (.slice A1_1 l1_1.length c1_1)) (ds := []) #[false, false, false, false, false, false] (by kernel_rfl) rfl rfl ⟨(blk_cell BK365.out 0).trans rfl, (blk_cell BK365.out 1).trans rfl, (blk_cell BK366.out 0).trans rfl, (blk_cell BK366.out 1).trans rfl⟩ (fun hHeld => ?_)
            generalize wc.drew = w33 at BK365 BK366 HB hHeld ⊢
            refine take_ (i := 0) (N := some 21) (v := ?_) (a' := ?_) #[true, false, false, false, false, false] rfl rfl (by kernel_rfl) (fun _ _ _ h => h) (Or.inl ⟨by rfl, ?_⟩) hHeld ?_ ?_
            rotate_left
            · rintro w' ⟨s0, s1, s2, s3⟩
              go_simp
              with_reducible rfl
            rotate_left
            · simp only [Act.put, List.setIfInBounds_toArray, List.set_cons_zero, List.set_cons_succ, i64_w, i32_w]
              rfl
            refine take_ (i := 2) (N := some 23) (v := ?_) (a' := ?_) #[true, false, true, false, false, false] rfl rfl (by kernel_rfl) (fun _ _ _ h => h) (Or.inl ⟨by rfl, ?_⟩) hHeld ?_ ?_
            rotate_left
            · rintro w' ⟨s0, s1, s2, s3⟩
              go_simp
              with_reducible rfl
            rotate_left
            · simp only [Act.put, List.setIfInBounds_toArray, List.set_cons_zero, List.set_cons_succ, i64_w, i32_w]
              rfl
            refine one_ (i := 1) (N := some 22) #[true, true, true, false, false, false] rfl rfl (by kernel_rfl) (by decide) (fun K hK => ?_)
            refine goes_ Tryd.func40 (by kernel_rfl) rfl #[.agg #[.bool true, .slice A0_1 l0_1.length c0_1]] (by rfl) rfl rfl (by (try simp only [List.map_toArray, List.map_cons, List.map_nil]); first | done | rfl | (simp only [List.length_drop, List.length_take]; rfl)) ?_
            with_reducible refine (marginaliaref01_Digits.calls kj2 true _ _ l0_1 t369 _ ?side1 ?side2 A26.out).mono ?_
            (case side1 => repeat (first | exact (Kd.C_below HR0_1.out HB.out) | (with_reducible refine Kd.C_alloc ?_ _) | (with_reducible refine Kd.C_drewN ?_ _) | (with_reducible refine Kd.C_drew ?_)))
            (case side2 => exact HC0_1.out)
            rintro e w34 ⟨v370, rfl, ho0, hb⟩
            refine ⟨_, rfl, ?_⟩
            have n0_ := Aside0.mk (Kd.R_lower ho0 (below_size bw))
            have n1_ := Aside0.mk (blk_below (bk BK365) hb)
            have n2_ := Aside0.mk (blk_below (bk BK366) hb)
            have n3_ := Aside0.mk (below_step bw hb)
            clear BK365 BK366 HB
            have HO371 := n0_
            have BK365 := n1_
            have BK366 := n2_
            have HB := n3_
            clear n0_ n1_ n2_ n3_
            (try clear hb)
            (try clear hb2)
            (try clear hk)
            (try clear hi)
            (try clear ho0)
            refine hK.out _ _ ⟨(blk_cell BK365.out 0).trans rfl, (blk_cell BK365.out 1).trans rfl, (blk_cell BK366.out 0).trans rfl, (blk_cell BK366.out 1).trans rfl⟩ (fun hHeld => ?_)
            clear hK K
            refine norm_ (a' := ?_) ?_ ?_
            rotate_left
            · show Act.put _ (some 22) _ = _
              simp only [Act.put, List.setIfInBounds_toArray, List.set_cons_zero, List.set_cons_succ, i64_w, i32_w]
              rfl
            refine one_ (i := 3) (N := some 24) #[true, true, true, true, false, false] rfl rfl (by kernel_rfl) (by decide) (fun K hK => ?_)
            refine goes_ Tryd.func40 (by kernel_rfl) rfl #[.agg #[.bool a1_0, .slice A1_1 l1_1.length c1_1]] (by rfl) rfl rfl (by (try simp only [List.map_toArray, List.map_cons, List.map_nil]); first | done | rfl | (simp only [List.length_drop, List.length_take]; rfl)) ?_
            with_reducible refine (marginaliaref01_Digits.calls kj2 a1_0 _ _ l1_1 t372 _ ?side1 ?side2 A27.out).mono ?_
            (case side1 => repeat (first | exact (Kd.C_below HR1_1.out HB.out) | (with_reducible refine Kd.C_alloc ?_ _) | (with_reducible refine Kd.C_drewN ?_ _) | (with_reducible refine Kd.C_drew ?_)))
            (case side2 => exact HC1_1.out)
            rintro e w35 ⟨v373, rfl, ho0, hb⟩
            refine ⟨_, rfl, ?_⟩
            have n0_ := Aside0.mk (Kd.R_elder' (kR HO371) (Kd.R_base ho0) hb)
            have n1_ := Aside0.mk (Kd.R_lower (Kd.R_new' ho0 (Kd.R_lt (kR HO371))) (below_size bw))
            have n2_ := Aside0.mk (blk_below (bk BK365) hb)
            have n3_ := Aside0.mk (blk_below (bk BK366) hb)
            have n4_ := Aside0.mk (below_step bw hb)
            clear HO371 BK365 BK366 HB
            have HO371 := n0_
            have HO374 := n1_
            have BK365 := n2_
            have BK366 := n3_
            have HB := n4_
            clear n0_ n1_ n2_ n3_ n4_
            (try clear hb)
            (try clear hb2)
            (try clear hk)
            (try clear hi)
            (try clear ho0)
            obtain ⟨Ao36, co36, eo36⟩ := Kd.R_slice HO371.out
            (first | subst eo36 | (injection eo36 with f1_ f2_ f3_; have f4_ := f1_.symm; have f5_ := f3_.symm; clear f1_ f2_ f3_; subst f4_; subst f5_))
            obtain ⟨Ao37, co37, eo37⟩ := Kd.R_slice HO374.out
            (first | subst eo37 | (injection eo37 with f1_ f2_ f3_; have f4_ := f1_.symm; have f5_ := f3_.symm; clear f1_ f2_ f3_; subst f4_; subst f5_))
            refine hK.out _ _ ⟨(blk_cell BK365.out 0).trans rfl, (blk_cell BK365.out 1).trans rfl, (blk_cell BK366.out 0).trans rfl, (blk_cell BK366.out 1).trans rfl⟩ (fun hHeld => ?_)
            clear hK K
            refine norm_ (a' := ?_) ?_ ?_
            rotate_left
            · show Act.put _ (some 24) _ = _
              simp only [Act.put, List.setIfInBounds_toArray, List.set_cons_zero, List.set_cons_succ, i64_w, i32_w]
              rfl
            refine one_ (i := 4) (N := some 25) #[true, true, true, true, true, false] rfl rfl (by kernel_rfl) (by decide) (fun K hK => ?_)
            refine goes_ Tryd.func47 (by kernel_rfl) rfl #[.slice Ao36 t369.length co36, .slice Ao37 t372.length co37] (by rfl) rfl rfl (by (try simp only [List.map_toArray, List.map_cons, List.map_nil]); first | done | rfl | (simp only [List.length_drop, List.length_take]; rfl)) ?_
            with_reducible refine (marginaliaref01_more.calls kj2 _ _ t369 _ _ t372 t375 _ ?side1 ?side2 ?side3 ?side4 A28.out).mono ?_
            (case side1 => repeat (first | exact (Kd.R_reads' HO371.out).2.2 | (with_reducible refine Kd.C_alloc ?_ _) | (with_reducible refine Kd.C_drewN ?_ _) | (with_reducible refine Kd.C_drew ?_)))
            (case side2 => exact (Kd.R_reads' HO371.out).2.1)
            (case side3 => repeat (first | exact (Kd.R_reads' HO374.out).2.2 | (with_reducible refine Kd.C_alloc ?_ _) | (with_reducible refine Kd.C_drewN ?_ _) | (with_reducible refine Kd.C_drew ?_)))
            (case side4 => exact (Kd.R_reads' HO374.out).2.1)
            rintro e w' ⟨rfl, ⟨nd, rfl⟩⟩
            refine ⟨_, rfl, ?_⟩
            refine hK.out _ _ ⟨(blk_cell BK365.out 0).trans rfl, (blk_cell BK365.out 1).trans rfl, (blk_cell BK366.out 0).trans rfl, (blk_cell BK366.out 1).trans rfl⟩ (fun hHeld => ?_)
            clear hK K
            refine norm_ (a' := ?_) ?_ ?_
            rotate_left
            · show Act.put _ (some 25) _ = _
              simp only [Act.put, List.setIfInBounds_toArray, List.set_cons_zero, List.set_cons_succ, i64_w, i32_w]
              rfl
            refine pure_ (i := 5) (N := some 5) (v := ?_) (a' := ?_) #[true, true, true, true, true, true] rfl rfl (by kernel_rfl) (fun _ _ _ h => h) (Or.inl ⟨by rfl, ?_⟩) ?_ ?_
            rotate_left
            · intro w'
              go_simp
              with_reducible rfl
            rotate_left
            · simp only [Act.put, List.setIfInBounds_toArray, List.set_cons_zero, List.set_cons_succ, i64_w, i32_w]
              rfl
            refine done_ (by kernel_rfl) ?_
            have hcz38_0 : w35.cell? ⟨gb365, 0, none⟩ = some (.bool true) := (blk_cell BK365.out 0).trans rfl
            have hcz38_1 : w35.cell? ⟨gb365, 1, none⟩ = some (.slice A0_1 l0_1.length c0_1) := (blk_cell BK365.out 1).trans rfl
            have hfz38_0 := blk_frozen BK365.out 0
            have hfz38_1 := blk_frozen BK365.out 1
            try go_wp2
            go_ret
            exact ⟨by first | rfl | (simp [errW_none, errW_some] <;> rfl) | (simp [*, errW_none, errW_some] <;> rfl), bw⟩
          · replace c29 := Bool.eq_false_iff.mpr c29
            subst c29
            have H1 : (some t375) = some r := by rw [if_neg (show ¬ (false = true) by decide)] at H; exact H
            clear H
            have H := H1
            clear H1
            obtain rfl := Option.some.inj H
            have hnb39 := NB365_366.out
            have hnc39 := NB366_365.out
            have hcz40_0 : wc.cell? ⟨gb365, 0, none⟩ = some (.bool false) := (blk_cell BK365.out 0).trans rfl
            have hcz40_1 : wc.cell? ⟨gb365, 1, none⟩ = some (.slice A0_1 l0_1.length c0_1) := (blk_cell BK365.out 1).trans rfl
            have hfz40_0 := blk_frozen BK365.out 0
            have hfz40_1 := blk_frozen BK365.out 1
            have hcz41_0 : wc.cell? ⟨gb366, 0, none⟩ = some (.bool a1_0) := (blk_cell BK366.out 0).trans rfl
            have hcz41_1 : wc.cell? ⟨gb366, 1, none⟩ = some (.slice A1_1 l1_1.length c1_1) := (blk_cell BK366.out 1).trans rfl
            have hfz41_0 := blk_frozen BK366.out 0
            have hfz41_1 := blk_frozen BK366.out 1
            try go_wp2
            have n0_ := Aside0.mk (blk_drew BK365.out)
            have n1_ := Aside0.mk (blk_drew BK366.out)
            have n2_ := Aside0.mk (below_drew1 HB.out)
            clear BK365 BK366 HB
            have BK365 := n0_
            have BK366 := n1_
            have HB := n2_
            clear n0_ n1_ n2_
            refine start_ (n := 6) (S := fun w' => w'.cell? ⟨gb365, 0, none⟩ = some (.bool false) ∧ w'.cell? ⟨gb365, 1, none⟩ = some (.slice A0_1 l0_1.length c0_1) ∧ w'.cell? ⟨gb366, 0, none⟩ = some (.bool a1_0) ∧ w'.cell? ⟨gb366, 1, none⟩ = some (.slice A1_1 l1_1.length c1_1)) (ds := []) #[false, false, false, false, false, false] (by kernel_rfl) rfl rfl ⟨(blk_cell BK365.out 0).trans rfl, (blk_cell BK365.out 1).trans rfl, (blk_cell BK366.out 0).trans rfl, (blk_cell BK366.out 1).trans rfl⟩ (fun hHeld => ?_)
            generalize wc.drew = w42 at BK365 BK366 HB hHeld ⊢
            refine take_ (i := 0) (N := some 21) (v := ?_) (a' := ?_) #[true, false, false, false, false, false] rfl rfl (by kernel_rfl) (fun _ _ _ h => h) (Or.inl ⟨by rfl, ?_⟩) hHeld ?_ ?_
            rotate_left
            · rintro w' ⟨s0, s1, s2, s3⟩
              go_simp
              with_reducible rfl
            rotate_left
            · simp only [Act.put, List.setIfInBounds_toArray, List.set_cons_zero, List.set_cons_succ, i64_w, i32_w]
              rfl
            refine take_ (i := 2) (N := some 23) (v := ?_) (a' := ?_) #[true, false, true, false, false, false] rfl rfl (by kernel_rfl) (fun _ _ _ h => h) (Or.inl ⟨by rfl, ?_⟩) hHeld ?_ ?_
            rotate_left
            · rintro w' ⟨s0, s1, s2, s3⟩
              go_simp
              with_reducible rfl
            rotate_left
            · simp only [Act.put, List.setIfInBounds_toArray, List.set_cons_zero, List.set_cons_succ, i64_w, i32_w]
              rfl
            refine one_ (i := 1) (N := some 22) #[true, true, true, false, false, false] rfl rfl (by kernel_rfl) (by decide) (fun K hK => ?_)
            refine goes_ Tryd.func40 (by kernel_rfl) rfl #[.agg #[.bool false, .slice A0_1 l0_1.length c0_1]] (by rfl) rfl rfl (by (try simp only [List.map_toArray, List.map_cons, List.map_nil]); first | done | rfl | (simp only [List.length_drop, List.length_take]; rfl)) ?_
            with_reducible refine (marginaliaref01_Digits.calls kj2 false _ _ l0_1 t369 _ ?side1 ?side2 A26.out).mono ?_
            (case side1 => repeat (first | exact (Kd.C_below HR0_1.out HB.out) | (with_reducible refine Kd.C_alloc ?_ _) | (with_reducible refine Kd.C_drewN ?_ _) | (with_reducible refine Kd.C_drew ?_)))
            (case side2 => exact HC0_1.out)
            rintro e w43 ⟨v370, rfl, ho0, hb⟩
            refine ⟨_, rfl, ?_⟩
            have n0_ := Aside0.mk (Kd.R_lower ho0 (below_size bw))
            have n1_ := Aside0.mk (blk_below (bk BK365) hb)
            have n2_ := Aside0.mk (blk_below (bk BK366) hb)
            have n3_ := Aside0.mk (below_step bw hb)
            clear BK365 BK366 HB
            have HO371 := n0_
            have BK365 := n1_
            have BK366 := n2_
            have HB := n3_
            clear n0_ n1_ n2_ n3_
            (try clear hb)
            (try clear hb2)
            (try clear hk)
            (try clear hi)
            (try clear ho0)
            refine hK.out _ _ ⟨(blk_cell BK365.out 0).trans rfl, (blk_cell BK365.out 1).trans rfl, (blk_cell BK366.out 0).trans rfl, (blk_cell BK366.out 1).trans rfl⟩ (fun hHeld => ?_)
            clear hK K
            refine norm_ (a' := ?_) ?_ ?_
            rotate_left
            · show Act.put _ (some 22) _ = _
              simp only [Act.put, List.setIfInBounds_toArray, List.set_cons_zero, List.set_cons_succ, i64_w, i32_w]
              rfl
            refine one_ (i := 3) (N := some 24) #[true, true, true, true, false, false] rfl rfl (by kernel_rfl) (by decide) (fun K hK => ?_)
            refine goes_ Tryd.func40 (by kernel_rfl) rfl #[.agg #[.bool a1_0, .slice A1_1 l1_1.length c1_1]] (by rfl) rfl rfl (by (try simp only [List.map_toArray, List.map_cons, List.map_nil]); first | done | rfl | (simp only [List.length_drop, List.length_take]; rfl)) ?_
            with_reducible refine (marginaliaref01_Digits.calls kj2 a1_0 _ _ l1_1 t372 _ ?side1 ?side2 A27.out).mono ?_
            (case side1 => repeat (first | exact (Kd.C_below HR1_1.out HB.out) | (with_reducible refine Kd.C_alloc ?_ _) | (with_reducible refine Kd.C_drewN ?_ _) | (with_reducible refine Kd.C_drew ?_)))
            (case side2 => exact HC1_1.out)
            rintro e w44 ⟨v373, rfl, ho0, hb⟩
            refine ⟨_, rfl, ?_⟩
            have n0_ := Aside0.mk (Kd.R_elder' (kR HO371) (Kd.R_base ho0) hb)
            have n1_ := Aside0.mk (Kd.R_lower (Kd.R_new' ho0 (Kd.R_lt (kR HO371))) (below_size bw))
            have n2_ := Aside0.mk (blk_below (bk BK365) hb)
            have n3_ := Aside0.mk (blk_below (bk BK366) hb)
            have n4_ := Aside0.mk (below_step bw hb)
            clear HO371 BK365 BK366 HB
            have HO371 := n0_
            have HO374 := n1_
            have BK365 := n2_
            have BK366 := n3_
            have HB := n4_
            clear n0_ n1_ n2_ n3_ n4_
            (try clear hb)
            (try clear hb2)
            (try clear hk)
            (try clear hi)
            (try clear ho0)
            obtain ⟨Ao45, co45, eo45⟩ := Kd.R_slice HO371.out
            (first | subst eo45 | (injection eo45 with f1_ f2_ f3_; have f4_ := f1_.symm; have f5_ := f3_.symm; clear f1_ f2_ f3_; subst f4_; subst f5_))
            obtain ⟨Ao46, co46, eo46⟩ := Kd.R_slice HO374.out
            (first | subst eo46 | (injection eo46 with f1_ f2_ f3_; have f4_ := f1_.symm; have f5_ := f3_.symm; clear f1_ f2_ f3_; subst f4_; subst f5_))
            refine hK.out _ _ ⟨(blk_cell BK365.out 0).trans rfl, (blk_cell BK365.out 1).trans rfl, (blk_cell BK366.out 0).trans rfl, (blk_cell BK366.out 1).trans rfl⟩ (fun hHeld => ?_)
            clear hK K
            refine norm_ (a' := ?_) ?_ ?_
            rotate_left
            · show Act.put _ (some 24) _ = _
              simp only [Act.put, List.setIfInBounds_toArray, List.set_cons_zero, List.set_cons_succ, i64_w, i32_w]
              rfl
            refine one_ (i := 4) (N := some 25) #[true, true, true, true, true, false] rfl rfl (by kernel_rfl) (by decide) (fun K hK => ?_)
            refine goes_ Tryd.func47 (by kernel_rfl) rfl #[.slice Ao45 t369.length co45, .slice Ao46 t372.length co46] (by rfl) rfl rfl (by (try simp only [List.map_toArray, List.map_cons, List.map_nil]); first | done | rfl | (simp only [List.length_drop, List.length_take]; rfl)) ?_
            with_reducible refine (marginaliaref01_more.calls kj2 _ _ t369 _ _ t372 t375 _ ?side1 ?side2 ?side3 ?side4 A28.out).mono ?_
            (case side1 => repeat (first | exact (Kd.R_reads' HO371.out).2.2 | (with_reducible refine Kd.C_alloc ?_ _) | (with_reducible refine Kd.C_drewN ?_ _) | (with_reducible refine Kd.C_drew ?_)))
            (case side2 => exact (Kd.R_reads' HO371.out).2.1)
            (case side3 => repeat (first | exact (Kd.R_reads' HO374.out).2.2 | (with_reducible refine Kd.C_alloc ?_ _) | (with_reducible refine Kd.C_drewN ?_ _) | (with_reducible refine Kd.C_drew ?_)))
            (case side4 => exact (Kd.R_reads' HO374.out).2.1)
            rintro e w' ⟨rfl, ⟨nd, rfl⟩⟩
            refine ⟨_, rfl, ?_⟩
            refine hK.out _ _ ⟨(blk_cell BK365.out 0).trans rfl, (blk_cell BK365.out 1).trans rfl, (blk_cell BK366.out 0).trans rfl, (blk_cell BK366.out 1).trans rfl⟩ (fun hHeld => ?_)
            clear hK K
            refine norm_ (a' := ?_) ?_ ?_
            rotate_left
            · show Act.put _ (some 25) _ = _
              simp only [Act.put, List.setIfInBounds_toArray, List.set_cons_zero, List.set_cons_succ, i64_w, i32_w]
              rfl
            refine pure_ (i := 5) (N := some 5) (v := ?_) (a' := ?_) #[true, true, true, true, true, true] rfl rfl (by kernel_rfl) (fun _ _ _ h => h) (Or.inl ⟨by rfl, ?_⟩) ?_ ?_
            rotate_left
            · intro w'
              go_simp
              with_reducible rfl
            rotate_left
            · simp only [Act.put, List.setIfInBounds_toArray, List.set_cons_zero, List.set_cons_succ, i64_w, i32_w]
              rfl
            refine done_ (by kernel_rfl) ?_
            have hcz47_0 : w44.cell? ⟨gb365, 0, none⟩ = some (.bool false) := (blk_cell BK365.out 0).trans rfl
            have hcz47_1 : w44.cell? ⟨gb365, 1, none⟩ = some (.slice A0_1 l0_1.length c0_1) := (blk_cell BK365.out 1).trans rfl
            have hfz47_0 := blk_frozen BK365.out 0
            have hfz47_1 := blk_frozen BK365.out 1
            try go_wp2
            go_ret
            exact ⟨by first | rfl | (simp [errW_none, errW_some] <;> rfl) | (simp [*, errW_none, errW_some] <;> rfl), bw⟩
end Go.Proofs.YtflmioakfboanaaDoor.PNumSums
end
