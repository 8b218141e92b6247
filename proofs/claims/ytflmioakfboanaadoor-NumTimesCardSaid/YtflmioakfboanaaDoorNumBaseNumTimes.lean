/-
  What the number package's and its reference's small functions answer: soundness, cutting, making a number, digits, equality.
-/
import Derived.Test.YtflmioakfboanaaDoorPNumTimesx
import Derived.Test.YtflmioakfboanaaDoorVal
namespace Go.Proofs.YtflmioakfboanaaDoor.PNumTimes
open Go.RowKit Go.Proofs.YtflmioakfboanaaDoorW.PrintWords Go.Proofs.YtflmioakfboanaaDoorW.PrintLast Go.Proofs.YtflmioakfboanaaDoor.Val

theorem cut_ev : ∀ (d : Nat) (l : List Int), l.length = d → d ≤ 4611686018427387904 → ∃ r, Cut l r ∧ Evt (fun k => num_cut.l0 k l) r
  | 0, l, hd, _ => by
    obtain rfl : l = [] := List.length_eq_zero_iff.1 hd
    exact ⟨[], cut_done Norm.nil, Evt.of1 fun k => by simp [num_cut.l0]⟩
  | d + 1, l, hd, hl => by
    have e : wrap64 ((l.length : Int) - 1) = (l.length : Int) - 1 := wrap64_of (by omega) (by omega)
    by_cases h0 : rd l ((l.length : Int) - 1) = 0
    · obtain ⟨r, hc, hr⟩ := cut_ev d (l.take (l.length - 1)) (by rw [List.length_take]; omega) (by omega)
      refine ⟨r, cut_step (by omega) h0 hc, Evt.step (fun k => ?_) hr⟩
      simp only [num_cut.l0]
      rw [if_pos (by omega), e, if_pos (by omega), if_pos (by omega), if_pos h0, if_pos (by omega)]
      have e2 : ((l.length : Int) - 1).toNat = l.length - 1 := by omega
      rw [e2]
    · refine ⟨l, cut_done (norm_of_rd fun _ => h0), Evt.of1 fun k => ?_⟩
      simp only [num_cut.l0]
      rw [if_pos (by omega), e, if_pos (by omega), if_pos (by omega), if_neg h0]

theorem of_ev (a : Bool) (l : List Int) (hl : l.length ≤ 4611686018427387904) :
    ∃ r, Cut l r ∧ Evt (fun k => num_of.f k a l) (if r.length > 64 then (false, [], 6) else (a && decide (0 < r.length), r, 0)) := by
  obtain ⟨r, hc, hr⟩ := cut_ev l.length l rfl hl
  refine ⟨r, hc, ?_⟩
  refine Evt.bind (g := fun k => num_cut.f k l) (h := fun t _ => if (t.length : Int) > 64 then some (false, [], 6) else if a = true then some (decide (0 < t.length), t, 0) else some (false, t, 0)) hr (Evt.of fun k => ?_)
  by_cases h : r.length > 64
  · rw [if_pos h, if_pos (by omega)]
  · rw [if_neg h, if_neg (by omega)]
    cases a <;> simp

/-- A sound number. -/
structure Snd (a : Bool) (l : List Int) : Prop where
  len : l.length ≤ 64
  lim : ∀ x ∈ l, x < 1000000000
  norm : Norm l
  zero : l = [] → a = false

theorem sound_spec (a : Bool) (l : List Int) (hl : l.length ≤ 4611686018427387904) : ∃ b, num_Sound.f a l = some b ∧ (b = true ↔ Snd a l) := by
  unfold num_Sound.f
  by_cases h0 : (l.length : Int) = 0
  · rw [if_pos h0]
    obtain rfl : l = [] := List.length_eq_zero_iff.1 (by omega)
    refine ⟨_, rfl, ?_⟩
    constructor
    · intro h; exact ⟨by simp, by simp, Norm.nil, fun _ => by simpa using h⟩
    · intro h; simpa using h.zero rfl
  · rw [if_neg h0]
    have e : wrap64 ((l.length : Int) - 1) = (l.length : Int) - 1 := wrap64_of (by omega) (by omega)
    by_cases h1 : (l.length : Int) ≤ 64
    · rw [if_pos h1, e, if_pos (by omega), if_pos (by omega)]
      by_cases h2 : rd l ((l.length : Int) - 1) = 0
      · rw [if_pos h2]
        refine ⟨false, rfl, ?_⟩
        constructor
        · intro h; cases h
        · intro h; exact absurd h2 (norm_rd h.norm (by omega))
      · rw [if_neg h2]
        unfold slices_ContainsFunc_uint32_uint32.f
        rw [if_pos rfl]
        refine ⟨_, rfl, ?_⟩
        constructor
        · intro h
          simp at h
          exact ⟨by omega, h, norm_of_rd fun _ => h2, fun h3 => by subst h3; simp at h0⟩
        · intro h
          simpa using h.lim
    · rw [if_neg h1]
      refine ⟨false, rfl, ?_⟩
      constructor
      · intro h; cases h
      · intro h; have := h.len; omega

theorem rsound_loop (a : Bool) (l : List Int) (hl : l.length ≤ 4611686018427387904) : ∀ (d i : Nat), i + d = l.length → (∀ j, j < i → rd l (j : Int) < 1000000000) →
    ∃ b, Evt (fun k => marginaliaref01_Sound.l0 k (l.length : Int) (i : Int) a l) b ∧ (b = true ↔ (∀ x ∈ l, x < 1000000000) ∧ Norm l)
  | 0, i, hi, hp => by
    have hlim : ∀ x ∈ l, x < 1000000000 := by
      intro x hx
      obtain ⟨j, hj, rfl⟩ := List.getElem_of_mem hx
      have := hp j (by omega)
      rwa [rd_at l j hj] at this
    by_cases h0 : (l.length : Int) = 0
    · have e0 : l = [] := List.length_eq_zero_iff.1 (by omega)
      refine ⟨true, Evt.of1 fun k => ?_, by subst e0; simp [Norm.nil]⟩
      simp only [marginaliaref01_Sound.l0]
      rw [if_neg (by omega), if_pos h0]
    · have e : wrap64 ((l.length : Int) - 1) = (l.length : Int) - 1 := wrap64_of (by omega) (by omega)
      refine ⟨rd l ((l.length : Int) - 1) != 0, Evt.of1 fun k => ?_, ?_⟩
      · simp only [marginaliaref01_Sound.l0]
        rw [if_neg (by omega), if_neg h0, e, if_pos (by omega), if_pos (by omega)]
      · constructor
        · intro h; exact ⟨hlim, norm_of_rd fun _ => by simpa using h⟩
        · intro h; simpa using norm_rd h.2 (by omega)
  | d + 1, i, hi, hp => by
    by_cases h : rd l (i : Int) ≥ 1000000000
    · refine ⟨false, Evt.of1 fun k => ?_, ?_⟩
      · simp only [marginaliaref01_Sound.l0]
        rw [if_pos (by omega), if_pos (by omega), if_pos (by omega), if_pos h]
      · constructor
        · intro h2; cases h2
        · intro h2
          have := h2.1 (rd l (i : Int)) (by rw [rd_at l i (by omega)]; exact List.getElem_mem _)
          omega
    · obtain ⟨b, hb, hi2⟩ := rsound_loop a l hl d (i + 1) (by omega) (fun j hj => by
        by_cases e : j = i
        · subst e; omega
        · exact hp j (by omega))
      refine ⟨b, Evt.step (fun k => ?_) hb, hi2⟩
      simp only [marginaliaref01_Sound.l0]
      rw [if_pos (by omega), if_pos (by omega), if_pos (by omega), if_neg h, wrap64_of (by omega) (by omega)]
      rfl

theorem rsound_ev (a : Bool) (l : List Int) (hl : l.length ≤ 4611686018427387904) : ∃ b, Evt (fun k => marginaliaref01_Sound.f k a l) b ∧ (b = true ↔ Snd a l) := by
  by_cases h1 : (l.length : Int) > 64
  · refine ⟨false, Evt.of1 fun k => ?_, ?_⟩
    · unfold marginaliaref01_Sound.f
      rw [if_pos h1]; simp [marginaliaref01_Sound.j0]
    · constructor
      · intro h; cases h
      · intro h; have := h.len; omega
  · by_cases h0 : (l.length : Int) = 0
    · have e0 : l = [] := List.length_eq_zero_iff.1 (by omega)
      subst e0
      cases a with
      | true =>
        refine ⟨false, Evt.of1 fun k => by simp [marginaliaref01_Sound.f, marginaliaref01_Sound.j0], ?_⟩
        constructor
        · intro h; cases h
        · intro h; have := h.zero rfl; cases this
      | false =>
        refine ⟨true, Evt.step (h := fun k => marginaliaref01_Sound.l0 k 0 0 false []) (fun k => by simp [marginaliaref01_Sound.f, marginaliaref01_Sound.j0]) (Evt.of1 fun k => by simp [marginaliaref01_Sound.l0]), ?_⟩
        constructor
        · intro _; exact ⟨by simp, by simp, Norm.nil, fun _ => rfl⟩
        · intro _; rfl
    · obtain ⟨b, hb, hi⟩ := rsound_loop a l hl l.length 0 (by omega) (fun j hj => absurd hj (Nat.not_lt_zero _))
      refine ⟨b, Evt.step (fun k => ?_) hb, ?_⟩
      · unfold marginaliaref01_Sound.f
        rw [if_neg h1, if_neg h0]
        simp only [marginaliaref01_Sound.j0]; rw [if_neg (by simp)]
        rfl
      · rw [hi]
        constructor
        · intro h; exact ⟨by omega, h.1, h.2, fun h3 => by subst h3; simp at h0⟩
        · intro h; exact ⟨h.lim, h.norm⟩

theorem trim_ev (l : List Int) (hl : l.length ≤ 4611686018427387904) : ∀ (i : Nat), i ≤ l.length → (∃ n, l = l.take i ++ List.replicate n 0) →
    ∃ r, Cut l r ∧ Evt (fun k => marginaliaref01_trim.l0 k l (i : Int)) r
  | 0, _, hc => by
    obtain ⟨n, hn⟩ := hc
    refine ⟨l.take 0, ⟨n, hn, by simpa using Norm.nil⟩, Evt.of1 fun k => ?_⟩
    simp only [marginaliaref01_trim.l0]
    rw [if_neg (by omega), if_pos (by omega), if_pos (by omega)]
    rfl
  | i + 1, hi, hc => by
    have e : wrap64 (((i + 1 : Nat) : Int) - 1) = (i : Int) := by rw [wrap64_of (by omega) (by omega)]; omega
    by_cases h0 : rd l (i : Int) = 0
    · obtain ⟨r, hr, hv⟩ := trim_ev l hl i (by omega) (by
        obtain ⟨n, hn⟩ := hc
        refine ⟨n + 1, ?_⟩
        have h0' := h0
        rw [rd_at l i (by omega)] at h0'
        have e1 : l.take (i + 1) = l.take i ++ [0] := by rw [List.take_succ_eq_append_getElem (by omega), h0']
        rw [e1] at hn
        rw [List.replicate_succ]
        simpa using hn)
      refine ⟨r, hr, Evt.step (fun k => ?_) hv⟩
      simp only [marginaliaref01_trim.l0]
      rw [if_pos (by omega), e, if_pos (by omega), if_pos (by omega), if_pos h0]
    · obtain ⟨n, hn⟩ := hc
      refine ⟨l.take (i + 1), ⟨n, hn, norm_of_rd fun _ => ?_⟩, Evt.of1 fun k => ?_⟩
      · have e1 : (((l.take (i + 1)).length : Int) - 1) = (i : Int) := by simp; omega
        rw [e1, rd_at _ i (by simp; omega), List.getElem_take, ← rd_at l i (by omega)]
        exact h0
      · simp only [marginaliaref01_trim.l0]
        rw [if_pos (by omega), e, if_pos (by omega), if_pos (by omega), if_neg h0, if_pos (by omega), if_pos (by omega)]
        rfl

theorem rtrim_ev (l : List Int) (hl : l.length ≤ 4611686018427387904) : ∃ r, Cut l r ∧ Evt (fun k => marginaliaref01_trim.f k l) r := by
  obtain ⟨r, h1, h2⟩ := trim_ev l hl l.length (Nat.le_refl _) ⟨0, by simp⟩
  exact ⟨r, h1, h2⟩

theorem same_loop (a b : Bool) (l : List Int) (hl : l.length ≤ 4611686018427387904) : ∀ (d i : Nat), i + d = l.length → Evt (fun k => marginaliaref01_Same.l0 k (i : Int) a l b l) true
  | 0, i, hi => Evt.of1 fun k => by
    simp only [marginaliaref01_Same.l0]
    rw [if_neg (by omega)]
  | d + 1, i, hi => Evt.step (fun k => by
    simp only [marginaliaref01_Same.l0]
    rw [if_pos (by omega), if_pos (by omega), if_pos (by omega), if_pos True.intro, wrap64_of (by omega) (by omega)]
    rfl) (same_loop a b l hl d (i + 1) (by omega))
/-- A number is the same as itself. -/
theorem same_refl (a : Bool) (l : List Int) (hl : l.length ≤ 4611686018427387904) : Evt (fun k => marginaliaref01_Same.f k a l a l) true := by
  refine Evt.step (fun k => ?_) (same_loop a a l hl l.length 0 (by omega))
  unfold marginaliaref01_Same.f
  rw [if_neg (by simp)]
  simp only [marginaliaref01_Same.j0]
  rw [if_neg (by simp)]
  rfl

theorem own_spec (a : Bool) (l : List Int) (hl : l.length < 35184372088832) : marginalialaw01_own.f a l = some (a, l) := by
  unfold marginalialaw01_own.f
  simp [hl]
end Go.Proofs.YtflmioakfboanaaDoor.PNumTimes
