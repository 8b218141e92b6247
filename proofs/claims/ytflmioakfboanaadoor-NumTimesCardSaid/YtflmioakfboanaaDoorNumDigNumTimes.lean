/-
  Digits of a number and the number of digits (the reference's Digits and Make), by their values.
-/
import Derived.Test.YtflmioakfboanaaDoorNumBaseNumTimes
namespace Go.Proofs.YtflmioakfboanaaDoor.PNumTimes
open Go.RowKit Go.Proofs.YtflmioakfboanaaDoorW.PrintWords Go.Proofs.YtflmioakfboanaaDoorW.PrintLast Go.Proofs.YtflmioakfboanaaDoor.Val

theorem pow9 (n : Nat) : (10 : Int) ^ (9 * n) = 1000000000 ^ n := by
  induction n with
  | zero => rfl
  | succ n ih => rw [show 9 * (n + 1) = 9 * n + 9 from by omega, Int.pow_add, ih, Int.pow_succ]; rfl
theorem limZ {l : List Int} (h : ∀ x ∈ l, x < 1000000000) (hw : ∀ x ∈ l, (Lit.int .u32 x).wf = true) : Lim 1000000000 l := fun x hx => by
  refine ⟨?_, h x hx⟩
  have := hw x hx
  simp [Lit.wf, IntKind.min, IntKind.max, IntKind.signed] at this
  omega

theorem dig_inner (a : Bool) (l : List Int) (x4 : Int) : ∀ (t : Nat) (x3 : List Int) (x5 x6 : Int), x6 = 9 - t → t ≤ 9 → x3.length + t < 140737488355328 → 0 ≤ x5 → x5 < 10 ^ t → x5 < 4294967296 →
    ∃ ds, ds.length = t ∧ Lim 10 ds ∧ val 10 ds = x5 ∧ ∀ r, Evt (fun k => marginaliaref01_Digits.l0 k (x3 ++ ds) (wrap64 (x4 + 1)) a l) r → Evt (fun k => marginaliaref01_Digits.l1 k x3 x4 x5 x6 a l) r
  | 0, x3, x5, x6, h6, _, _, h0, h1, _ => by
    refine ⟨[], rfl, Lim.nil _, by simp at h1; simp [val]; omega, fun r hr => Evt.step (fun k => ?_) hr⟩
    simp only [marginaliaref01_Digits.l1]
    rw [if_neg (by omega), List.append_nil]
  | t + 1, x3, x5, x6, h6, ht, hl, h0, h1, h2 => by
    have e1 : Int.tmod x5 10 % 256 = x5 % 10 := by rw [Int.tmod_eq_emod_of_nonneg h0]; omega
    have e2 : Int.tdiv x5 10 % 4294967296 = x5 / 10 := by rw [Int.tdiv_eq_ediv_of_nonneg h0]; omega
    have e3 : x5 / 10 < 10 ^ t := by rw [Int.pow_succ] at h1; omega
    obtain ⟨ds, hd1, hd2, hd3, hd4⟩ := dig_inner a l x4 t (x3 ++ [x5 % 10]) (x5 / 10) (x6 + 1) (by omega) (by omega) (by simp; omega) (by omega) e3 (by omega)
    refine ⟨x5 % 10 :: ds, by simp [hd1], ?_, by simp only [val, hd3]; omega, fun r hr => Evt.step (fun k => ?_) (hd4 r (by simpa using hr))⟩
    · intro x hx
      rcases List.mem_cons.1 hx with rfl | hx
      · omega
      · exact hd2 x hx
    · simp only [marginaliaref01_Digits.l1]
      rw [if_pos (by omega), if_pos (by omega), e1, e2, wrap64_of (by omega) (by omega)]

theorem dig_outer (a : Bool) (l : List Int) (hl : l.length ≤ 1000000) (hL : Lim 1000000000 l) : ∀ (d i : Nat) (x3 : List Int), i + d = l.length → x3.length = 9 * i → Lim 10 x3 → val 10 x3 = val 1000000000 (l.take i) →
    ∃ D, Lim 10 D ∧ Norm D ∧ val 10 D = val 1000000000 l ∧ D.length ≤ 9 * l.length ∧ Evt (fun k => marginaliaref01_Digits.l0 k x3 (i : Int) a l) D
  | 0, i, x3, hi, hx, hlim, hv => by
    obtain ⟨r, hc, hr⟩ := rtrim_ev x3 (by omega)
    have ht : l.take i = l := List.take_of_length_le (by omega)
    refine ⟨r, hc.lim hlim, hc.norm, by rw [hc.val, hv, ht], by have := hc.len; omega, ?_⟩
    refine Evt.step (h := fun k => (marginaliaref01_trim.f k x3).bind fun t => some t) (fun k => ?_) (Evt.bind hr (Evt.of fun _ => rfl))
    simp only [marginaliaref01_Digits.l0]
    rw [if_neg (by omega)]
  | d + 1, i, x3, hi, hx, hlim, hv => by
    have hr := hL.rd (i : Int) (by omega) (by omega)
    obtain ⟨ds, hd1, hd2, hd3, hd4⟩ := dig_inner a l (i : Int) 9 x3 (rd l i) 0 rfl (by omega) (by omega) hr.1 (by have := hr.2; omega) (by omega)
    obtain ⟨D, h1, h2, h3, h5, h4⟩ := dig_outer a l hl hL d (i + 1) (x3 ++ ds) (by omega) (by simp [hx, hd1]; omega) (hlim.append hd2) (by
      rw [val_append, hv, hd3, hx, pow9, List.take_succ_eq_append_getElem (by omega), val_snoc, ← rd_at l i (by omega), List.length_take, Nat.min_eq_left (by omega)])
    refine ⟨D, h1, h2, h3, h5, Evt.step (h := fun k => marginaliaref01_Digits.l1 k x3 (i : Int) (rd l i) 0 a l) (fun k => ?_) (hd4 D ?_)⟩
    · simp only [marginaliaref01_Digits.l0]
      rw [if_pos (by omega), if_pos (by omega)]
    · rw [wrap64_of (by omega) (by omega)]
      exact h4

theorem digits_ev (a : Bool) (l : List Int) (hl : l.length ≤ 1000000) (hL : Lim 1000000000 l) :
    ∃ D, Lim 10 D ∧ Norm D ∧ val 10 D = val 1000000000 l ∧ D.length ≤ 9 * l.length ∧ Evt (fun k => marginaliaref01_Digits.f k a l) D :=
  dig_outer a l hl hL l.length 0 [] (by omega) rfl (Lim.nil _) (by simp [val])

/-- What a row of nine digits, beginning with the top one, comes to. -/
theorem make_inner (a : Bool) (d : List Int) (hd : d.length ≤ 1000000) (hL : Lim 10 d) (x7 : List Int) (hx7 : x7.length < 35184372088832) (i : Nat) (hi : i < d.length) : ∀ (t : Nat) (x9 : Int), t ≤ 9 → 0 ≤ x9 → x9 * 10 ^ t + 10 ^ t ≤ 1000000000 →
    ∀ r, Evt (fun k => marginaliaref01_Make.l0 k a d (x7 ++ [x9 * 10 ^ t + val 10 ((d.drop i).take t)]) (wrap64 ((i : Int) + 9))) r → Evt (fun k => marginaliaref01_Make.l1 k a d x7 (i : Int) x9 ((t : Int) - 1)) r
  | 0, x9, _, h0, h1, r, hr => by
    refine Evt.step (fun k => ?_) hr
    simp only [marginaliaref01_Make.l1]
    rw [if_neg (by omega), if_pos hx7]
    simp [val]
  | t + 1, x9, ht, h0, h1, r, hr => by
    have hp : (10 : Int) ^ t ≤ 10 ^ 8 := pow_mono (by omega) (by omega)
    have hp0 : (0 : Int) < 10 ^ t := pow_pos' (by omega) t
    rw [Int.pow_succ] at h1
    have hx : x9 < 1000000000 := by
      have : x9 * 1 ≤ x9 * (10 ^ t * 10) := Int.mul_le_mul_of_nonneg_left (by omega) h0
      omega
    have hx' : x9 * 10 + 10 ≤ 1000000000 := by
      have e : x9 * (10 ^ t * 10) + 10 ^ t * 10 = (x9 * 10 + 10) * 10 ^ t := by grind
      rw [e] at h1
      have : (x9 * 10 + 10) * 1 ≤ (x9 * 10 + 10) * 10 ^ t := Int.mul_le_mul_of_nonneg_left (by omega) (by omega)
      omega
    have ew : wrap64 ((i : Int) + (((t + 1 : Nat) : Int) - 1)) = ((i + t : Nat) : Int) := by rw [wrap64_of (by omega) (by omega)]; omega
    have ew2 : wrap64 ((((t + 1 : Nat) : Int) - 1) - 1) = (t : Int) - 1 := by rw [wrap64_of (by omega) (by omega)]; omega
    by_cases hin : i + t < d.length
    · have hg := hL.rd ((i + t : Nat) : Int) (by omega) (by omega)
      have em : ((x9 * 10 % 4294967296) + (rd d ((i + t : Nat) : Int) % 4294967296)) % 4294967296 = x9 * 10 + rd d ((i + t : Nat) : Int) := by omega
      have ih := make_inner a d hd hL x7 hx7 i hi t (x9 * 10 + rd d ((i + t : Nat) : Int)) (by omega) (by omega) (by
        have e : (x9 * 10 + rd d ((i + t : Nat) : Int)) * 10 ^ t + 10 ^ t = (x9 * 10 + (rd d ((i + t : Nat) : Int) + 1)) * 10 ^ t := by grind
        have e2 : x9 * (10 ^ t * 10) + 10 ^ t * 10 = (x9 * 10 + 10) * 10 ^ t := by grind
        rw [e]
        rw [e2] at h1
        have : (x9 * 10 + (rd d ((i + t : Nat) : Int) + 1)) * 10 ^ t ≤ (x9 * 10 + 10) * 10 ^ t := Int.mul_le_mul_of_nonneg_right (by omega) (Int.le_of_lt hp0)
        omega) r (by
        have e3 : (d.drop i).take (t + 1) = (d.drop i).take t ++ [d[i + t]] := by
          rw [List.take_succ_eq_append_getElem (by simp; omega)]
          simp
        rw [e3, val_snoc, ← rd_at d (i + t) hin, List.length_take, List.length_drop, Nat.min_eq_left (by omega), Int.pow_succ] at hr
        have e4 : x9 * (10 ^ t * 10) + (val 10 ((d.drop i).take t) + 10 ^ t * rd d ((i + t : Nat) : Int)) = (x9 * 10 + rd d ((i + t : Nat) : Int)) * 10 ^ t + val 10 ((d.drop i).take t) := by grind
        rw [e4] at hr
        exact hr)
      refine Evt.step (fun k => ?_) ih
      simp only [marginaliaref01_Make.l1]
      rw [if_pos (by omega), ew, if_pos (by omega), if_pos (by omega), em, ew2]
    · have em : x9 * 10 % 4294967296 = x9 * 10 := by omega
      have ih := make_inner a d hd hL x7 hx7 i hi t (x9 * 10) (by omega) (by omega) (by
        have e2 : x9 * (10 ^ t * 10) = x9 * 10 * 10 ^ t := by grind
        omega) r (by
        have e3 : (d.drop i).take (t + 1) = (d.drop i).take t := by
          rw [List.take_of_length_le (by simp; omega), List.take_of_length_le (by simp; omega)]
        rw [e3, Int.pow_succ] at hr
        have e4 : x9 * (10 ^ t * 10) = x9 * 10 * 10 ^ t := by grind
        rw [e4] at hr
        exact hr)
      refine Evt.step (fun k => ?_) ih
      simp only [marginaliaref01_Make.l1]
      rw [if_pos (by omega), ew, if_neg (by omega), em, ew2]

theorem make_outer (a : Bool) (d : List Int) (hd : d.length ≤ 1000000) (hL : Lim 10 d) (hn : Norm d) : ∀ (c i : Nat) (x7 : List Int), d.length ≤ i + c → i ≤ d.length + 8 → x7.length ≤ i → i = 9 * x7.length → Lim 1000000000 x7 → val 1000000000 x7 = val 10 (d.take i) → (d.length ≤ i → Norm x7) →
    ∃ l, Lim 1000000000 l ∧ Norm l ∧ val 1000000000 l = val 10 d ∧ Evt (fun k => marginaliaref01_Make.l0 k a d x7 (i : Int)) (a && decide (0 < d.length), l, true)
  | c, i, x7, hc, hi8, hx, h9, hlim, hv, hnx => by
    by_cases hin : i < d.length
    · cases c with
      | zero => omega
      | succ c =>
        let w := val 10 ((d.drop i).take 9)
        have hLd : Lim 10 ((d.drop i).take 9) := fun x hx => hL x (List.mem_of_mem_drop (List.mem_of_mem_take hx))
        have hw0 : 0 ≤ w := val_nonneg (by omega) hLd
        have hw1 : w < 1000000000 := by
          have h1 := val_lt (B := 10) (by omega) hLd
          have h2 : (10 : Int) ^ ((d.drop i).take 9).length ≤ 10 ^ 9 := pow_mono (by omega) (by simp; omega)
          have h3 : w = val 10 ((d.drop i).take 9) := rfl
          omega
        have htk : d.take (i + 9) = d.take i ++ (d.drop i).take 9 := by rw [List.take_add]
        obtain ⟨l, h1, h2, h3, h4⟩ := make_outer a d hd hL hn c (i + 9) (x7 ++ [w]) (by omega) (by omega) (by simp; omega) (by simp; omega) (hlim.snoc hw0 hw1) (by
          rw [val_snoc, hv, htk, val_append, List.length_take, Nat.min_eq_left (by omega), ← pow9, ← h9]) (fun hge => by
          refine norm_of_rd fun _ => ?_
          have e1 : (((x7 ++ [w]).length : Int) - 1) = ((x7.length : Nat) : Int) := by simp
          rw [e1, rd_at _ _ (by simp)]
          simp only [List.getElem_append_right (Nat.le_refl _), Nat.sub_self, List.getElem_cons_zero]
          intro hw
          have hdn : Norm ((d.drop i).take 9) := by
            rw [List.take_of_length_le (by simp; omega)]
            intro h0
            rw [List.getLast_drop]
            exact hn _
          have := (val_zero_iff (B := 10) (by omega) hLd hdn).1 hw
          have hlen : ((d.drop i).take 9).length = 0 := by rw [this]; rfl
          simp at hlen
          omega)
        refine ⟨l, h1, h2, h3, ?_⟩
        have ih := make_inner a d hd hL x7 (by omega) i hin 9 0 (by omega) (by omega) (by omega) (a && decide (0 < d.length), l, true) (by
          rw [wrap64_of (by omega) (by omega), Int.zero_mul, Int.zero_add]
          exact h4)
        refine Evt.step (fun k => ?_) ih
        simp only [marginaliaref01_Make.l0]
        rw [if_pos (by omega)]
        rfl
    · have ht : d.take i = d := List.take_of_length_le (by omega)
      refine ⟨x7, hlim, hnx (by omega), by rw [hv, ht], Evt.of1 fun k => ?_⟩
      simp only [marginaliaref01_Make.l0]
      rw [if_neg (by omega)]
      cases a <;> simp

theorem make_ev (a : Bool) (d : List Int) (hd : d.length ≤ 1000000) (hL : Lim 10 d) :
    ∃ l, Lim 1000000000 l ∧ Norm l ∧ val 1000000000 l = val 10 d ∧ Evt (fun k => marginaliaref01_Make.f k a d) (if 64 < l.length then (false, [], false) else (a && decide (0 < l.length), l, true)) := by
  obtain ⟨r, hc, hr⟩ := rtrim_ev d (by omega)
  have hLr := hc.lim hL
  have hrl := hc.len
  obtain ⟨l, h1, h2, h3, h4⟩ := make_outer a r (by omega) hLr hc.norm r.length 0 [] (by omega) (by omega) (by simp) (by simp) (Lim.nil _) (by simp [val]) (fun h => Norm.nil)
  refine ⟨l, h1, h2, by rw [h3, hc.val], ?_⟩
  have hv : val 1000000000 l = val 10 r := h3
  have hiff : l.length ≤ 64 ↔ r.length ≤ 576 := by
    rw [len_le_iff (by omega) h1 h2, len_le_iff (by omega) hLr hc.norm, hv, ← pow9]
  have hpos : decide (0 < r.length) = decide (0 < l.length) := by
    have z1 := val_zero_iff (B := 1000000000) (by omega) h1 h2
    have z2 := val_zero_iff (B := 10) (by omega) hLr hc.norm
    rw [hv] at z1
    have : l = [] ↔ r = [] := z1.symm.trans z2
    rw [← List.length_eq_zero_iff, ← List.length_eq_zero_iff] at this
    simp only [decide_eq_decide]
    omega
  by_cases hbig : 64 < l.length
  · rw [if_pos hbig]
    refine Evt.bind (g := fun k => marginaliaref01_trim.f k d) (h := fun t k => if (t.length : Int) > 576 then some (false, [], false) else marginaliaref01_Make.l0 k a t [] 0) hr (Evt.of fun k => ?_)
    rw [if_pos (by omega)]
  · rw [if_neg hbig, ← hpos]
    refine Evt.bind (g := fun k => marginaliaref01_trim.f k d) (h := fun t k => if (t.length : Int) > 576 then some (false, [], false) else marginaliaref01_Make.l0 k a t [] 0) hr (h4.congr fun k => ?_)
    rw [if_neg (by omega)]
    rfl
end Go.Proofs.YtflmioakfboanaaDoor.PNumTimes
