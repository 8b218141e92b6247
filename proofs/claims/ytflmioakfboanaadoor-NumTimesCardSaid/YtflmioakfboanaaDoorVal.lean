/-
  Numbers written in digits of a base, the lowest one first: values, lists without noughts at the top, and that such a list is told by its value.
-/
import Derived.Test.YtflmioakfboanaaDoorWWords
namespace Go.Proofs.YtflmioakfboanaaDoor.Val
open Go.RowKit Go.Proofs.YtflmioakfboanaaDoorW.PrintWords

/-- The value of digits, the lowest one first. -/
def val (B : Int) : List Int → Int
  | [] => 0
  | x :: l => x + B * val B l
def Lim (B : Int) (l : List Int) : Prop := ∀ x ∈ l, 0 ≤ x ∧ x < B
/-- The top digit is no nought. -/
def Norm (l : List Int) : Prop := ∀ h : l ≠ [], l.getLast h ≠ 0
/-- r is l without the noughts at its top. -/
def Cut (l r : List Int) : Prop := ∃ n, l = r ++ List.replicate n 0 ∧ Norm r

theorem val_append (B : Int) (l m : List Int) : val B (l ++ m) = val B l + B ^ l.length * val B m := by
  induction l with
  | nil => simp [val]
  | cons x l ih => simp only [List.cons_append, val, ih, List.length_cons, Int.pow_succ]; grind
theorem val_replicate (B : Int) (n : Nat) : val B (List.replicate n 0) = 0 := by
  induction n with
  | zero => rfl
  | succ n ih => simp [List.replicate_succ, val, ih]
theorem val_snoc (B : Int) (l : List Int) (x : Int) : val B (l ++ [x]) = val B l + B ^ l.length * x := by
  rw [val_append]; simp [val]
theorem rd_at (l : List Int) (i : Nat) (h : i < l.length) : rd l (i : Int) = l[i] := by
  unfold rd; simp [List.getD_eq_getElem?_getD, List.getElem?_eq_getElem h]
theorem val_set (B : Int) (l : List Int) (i : Nat) (h : i < l.length) (v : Int) : val B (l.set i v) = val B l + B ^ i * (v - rd l (i : Int)) := by
  induction l generalizing i with
  | nil => simp at h
  | cons x l ih =>
    cases i with
    | zero => simp [val, rd]; omega
    | succ i =>
      have h' : i < l.length := by simpa using h
      have e := ih i h'
      have e2 : rd (x :: l) ((i + 1 : Nat) : Int) = rd l (i : Int) := by
        rw [rd_at _ _ h, rd_at _ _ h']; rfl
      simp only [List.set_cons_succ, val, e, e2, Int.pow_succ]
      grind
theorem Lim.nil (B : Int) : Lim B [] := by intro x hx; simp at hx
theorem Lim.append {B : Int} {l m : List Int} (h : Lim B l) (k : Lim B m) : Lim B (l ++ m) := by
  intro x hx
  rcases List.mem_append.1 hx with h1 | h1
  · exact h x h1
  · exact k x h1
theorem Lim.snoc {B : Int} {l : List Int} {x : Int} (h : Lim B l) (h0 : 0 ≤ x) (h1 : x < B) : Lim B (l ++ [x]) := h.append (by intro y hy; simp at hy; subst hy; exact ⟨h0, h1⟩)
theorem Lim.replicate {B : Int} (hB : 0 < B) (n : Nat) : Lim B (List.replicate n 0) := by
  intro x hx
  rw [List.eq_of_mem_replicate hx]
  exact ⟨Int.le_refl _, hB⟩
theorem Lim.left {B : Int} {l m : List Int} (h : Lim B (l ++ m)) : Lim B l := fun x hx => h x (List.mem_append_left _ hx)
theorem Lim.set {B : Int} {l : List Int} (h : Lim B l) (i : Nat) (v : Int) (h0 : 0 ≤ v) (h1 : v < B) : Lim B (l.set i v) := by
  intro x hx
  rcases List.mem_or_eq_of_mem_set hx with h2 | h2
  · exact h x h2
  · subst h2; exact ⟨h0, h1⟩
theorem Lim.rd {B : Int} {l : List Int} (h : Lim B l) (i : Int) (h0 : 0 ≤ i) (h1 : i < l.length) : 0 ≤ rd l i ∧ rd l i < B := by
  obtain ⟨n, rfl⟩ := Int.eq_ofNat_of_zero_le h0
  rw [rd_at l n (by omega)]
  exact h _ (List.getElem_mem _)
theorem pow_pos' {B : Int} (hB : 0 < B) (n : Nat) : 0 < B ^ n := Int.pow_pos hB
theorem pow_mono {B : Int} (hB : 1 ≤ B) {m n : Nat} (h : m ≤ n) : B ^ m ≤ B ^ n := by
  induction n with
  | zero => have : m = 0 := by omega
            subst this; exact Int.le_refl _
  | succ n ih =>
    by_cases e : m = n + 1
    · subst e; exact Int.le_refl _
    · have h1 := ih (by omega)
      have h2 := pow_pos' (show 0 < B by omega) n
      have h3 : B ^ n * 1 ≤ B ^ n * B := Int.mul_le_mul_of_nonneg_left hB (Int.le_of_lt h2)
      rw [Int.pow_succ]
      omega
theorem val_nonneg {B : Int} (hB : 0 < B) {l : List Int} (h : Lim B l) : 0 ≤ val B l := by
  induction l with
  | nil => exact Int.le_refl _
  | cons x l ih =>
    have h1 := (h x (by simp)).1
    have h2 := ih fun y hy => h y (by simp [hy])
    have h3 := Int.mul_nonneg (Int.le_of_lt hB) h2
    simp only [val]; omega
theorem val_lt {B : Int} (hB : 0 < B) {l : List Int} (h : Lim B l) : val B l < B ^ l.length := by
  induction l with
  | nil => simp [val]
  | cons x l ih =>
    have h1 := (h x (by simp)).2
    have h2 := ih fun y hy => h y (by simp [hy])
    have h3 : B * (val B l + 1) ≤ B * B ^ l.length := Int.mul_le_mul_of_nonneg_left (by omega) (Int.le_of_lt hB)
    simp only [val, List.length_cons, Int.pow_succ]
    have h4 : B ^ l.length * B = B * B ^ l.length := Int.mul_comm _ _
    rw [h4]
    rw [Int.mul_add, Int.mul_one] at h3
    omega
theorem Norm.nil : Norm [] := fun h => absurd rfl h
theorem norm_le {B : Int} (hB : 0 < B) {l : List Int} (h : Lim B l) (hn : Norm l) (h0 : l ≠ []) : B ^ (l.length - 1) ≤ val B l := by
  obtain ⟨m, x, rfl⟩ : ∃ m x, l = m ++ [x] := ⟨l.dropLast, l.getLast h0, (List.dropLast_concat_getLast h0).symm⟩
  have hx := hn h0
  simp at hx
  have hx1 := h x (by simp)
  rw [val_snoc]
  have h1 := val_nonneg hB h.left
  have h2 : B ^ m.length * 1 ≤ B ^ m.length * x := Int.mul_le_mul_of_nonneg_left (by omega) (Int.le_of_lt (pow_pos' hB _))
  simp
  omega
theorem val_zero_iff {B : Int} (hB : 0 < B) {l : List Int} (h : Lim B l) (hn : Norm l) : val B l = 0 ↔ l = [] := by
  constructor
  · intro hv
    rcases Decidable.em (l = []) with h0 | h0
    · exact h0
    · have := norm_le hB h hn h0
      have := pow_pos' hB (l.length - 1)
      omega
  · rintro rfl; rfl
theorem norm_tail {x : Int} {l : List Int} (h : Norm (x :: l)) : Norm l := by
  intro h0
  have := h (by simp)
  rwa [List.getLast_cons h0] at this
/-- A list of digits without noughts at the top is told by its value. -/
theorem uniq {B : Int} (hB : 0 < B) : ∀ {l m : List Int}, Lim B l → Lim B m → Norm l → Norm m → val B l = val B m → l = m
  | [], m, _, hm, _, nm, e => ((val_zero_iff hB hm nm).1 e.symm).symm
  | l, [], hl, _, nl, _, e => (val_zero_iff hB hl nl).1 e
  | x :: l, y :: m, hl, hm, nl, nm, e => by
    simp only [val] at e
    have hx := hl x (by simp)
    have hy := hm y (by simp)
    have e1 : (x + B * val B l) % B = (y + B * val B m) % B := by rw [e]
    rw [Int.add_mul_emod_self_left, Int.add_mul_emod_self_left, Int.emod_eq_of_lt hx.1 hx.2, Int.emod_eq_of_lt hy.1 hy.2] at e1
    subst e1
    have e2 : val B l = val B m := Int.eq_of_mul_eq_mul_left (a := B) (by omega) (by omega)
    rw [uniq hB (fun z hz => hl z (by simp [hz])) (fun z hz => hm z (by simp [hz])) (norm_tail nl) (norm_tail nm) e2]
theorem Cut.val {B : Int} {l r : List Int} (h : Cut l r) : val B r = val B l := by
  obtain ⟨n, rfl, _⟩ := h
  rw [val_append, val_replicate]; simp
theorem Cut.lim {B : Int} {l r : List Int} (h : Cut l r) (hl : Lim B l) : Lim B r := by
  obtain ⟨n, rfl, _⟩ := h
  exact hl.left
theorem Cut.norm {l r : List Int} (h : Cut l r) : Norm r := by
  obtain ⟨_, _, hn⟩ := h
  exact hn
theorem Cut.len {l r : List Int} (h : Cut l r) : r.length ≤ l.length := by
  obtain ⟨n, rfl, _⟩ := h
  simp
/-- Few digits, just if the value is small. -/
theorem len_le_iff {B : Int} (hB : 1 < B) {l : List Int} (h : Lim B l) (hn : Norm l) (n : Nat) : l.length ≤ n ↔ val B l < B ^ n := by
  have hB0 : 0 < B := by omega
  constructor
  · intro hl
    have h1 := val_lt hB0 h
    have h2 : B ^ l.length ≤ B ^ n := pow_mono (by omega) hl
    omega
  · intro hv
    apply Decidable.byContradiction
    intro hc
    have h0 : l ≠ [] := by rintro rfl; simp at hc
    have h1 := norm_le hB0 h hn h0
    have h2 : B ^ n ≤ B ^ (l.length - 1) := pow_mono (by omega) (by omega)
    omega
theorem norm_of_rd {l : List Int} (h : 0 < l.length → rd l ((l.length : Int) - 1) ≠ 0) : Norm l := by
  intro h0
  have hl : 0 < l.length := by cases l with | nil => exact absurd rfl h0 | cons => simp
  have h1 := h hl
  rw [show ((l.length : Int) - 1) = ((l.length - 1 : Nat) : Int) from by omega, rd_at l _ (by omega)] at h1
  rw [List.getLast_eq_getElem]
  exact h1
theorem norm_rd {l : List Int} (h : Norm l) (hl : 0 < l.length) : rd l ((l.length : Int) - 1) ≠ 0 := by
  have h0 : l ≠ [] := by rintro rfl; simp at hl
  have := h h0
  rw [List.getLast_eq_getElem] at this
  rw [show ((l.length : Int) - 1) = ((l.length - 1 : Nat) : Int) from by omega, rd_at l _ (by omega)]
  exact this
theorem cut_step {l : List Int} (hl : 0 < l.length) (h0 : rd l ((l.length : Int) - 1) = 0) {r : List Int} (h : Cut (l.take (l.length - 1)) r) : Cut l r := by
  obtain ⟨n, e, hn⟩ := h
  refine ⟨n + 1, ?_, hn⟩
  rw [show ((l.length : Int) - 1) = ((l.length - 1 : Nat) : Int) from by omega, rd_at l _ (by omega)] at h0
  have e1 : l = l.take (l.length - 1) ++ [l[l.length - 1]] := by
    rw [List.take_append_getElem]
    rw [List.take_of_length_le (by omega)]
  rw [e1, e, h0, List.replicate_succ', List.append_assoc]
theorem cut_done {l : List Int} (h : Norm l) : Cut l l := ⟨0, by simp, h⟩
theorem wrap64_of {x : Int} (h0 : -9223372036854775808 ≤ x) (h1 : x ≤ 9223372036854775807) : wrap64 x = x := by
  unfold wrap64; omega
theorem w_add (i j : Nat) (h : i + j ≤ 4611686018427387904) : wrap64 ((i : Int) + (j : Int)) = ((i + j : Nat) : Int) := by rw [wrap64_of (by omega) (by omega)]; omega
theorem w_add3 (i j : Nat) (h : i + j ≤ 4611686018427387904) : wrap64 (wrap64 ((i : Int) + (j : Int)) + 1) = ((i + j + 1 : Nat) : Int) := by
  rw [w_add i j h, wrap64_of (by omega) (by omega)]
  omega
theorem w_succ (i : Nat) (h : i ≤ 4611686018427387904) : wrap64 ((i : Int) + 1) = ((i + 1 : Nat) : Int) := by rw [wrap64_of (by omega) (by omega)]; omega
theorem wrapu64_of {x : Int} (h0 : 0 ≤ x) (h1 : x < 18446744073709551616) : IntKind.u64.wrap x = x := by
  simp [IntKind.wrap, IntKind.bits, IntKind.signed]; omega

/-- With enough rounds g answers r. -/
def Evt {α : Type} (g : Nat → Option α) (r : α) : Prop := ∃ K, ∀ k, K ≤ k → g k = some r
theorem Evt.of {α : Type} {g : Nat → Option α} {r : α} (h : ∀ k, g k = some r) : Evt g r := ⟨0, fun k _ => h k⟩
theorem Evt.of1 {α : Type} {g : Nat → Option α} {r : α} (h : ∀ k, g (k + 1) = some r) : Evt g r := ⟨1, fun k hk => by
  obtain ⟨m, rfl⟩ : ∃ m, k = m + 1 := ⟨k - 1, by omega⟩
  exact h m⟩
theorem Evt.step {α : Type} {g h : Nat → Option α} {r : α} (e : ∀ k, g (k + 1) = h k) (hh : Evt h r) : Evt g r := by
  obtain ⟨K, hK⟩ := hh
  refine ⟨K + 1, fun k hk => ?_⟩
  obtain ⟨m, rfl⟩ : ∃ m, k = m + 1 := ⟨k - 1, by omega⟩
  rw [e]
  exact hK m (by omega)
theorem Evt.congr {α : Type} {g h : Nat → Option α} {r : α} (hh : Evt h r) (e : ∀ k, g k = h k) : Evt g r := by
  obtain ⟨K, hK⟩ := hh
  exact ⟨K, fun k hk => by rw [e]; exact hK k hk⟩
theorem Evt.bind {α β : Type} {g : Nat → Option α} {a : α} {h : α → Nat → Option β} {r : β} (hg : Evt g a) (hh : Evt (h a) r) : Evt (fun k => (g k).bind fun x => h x k) r := by
  obtain ⟨K, hK⟩ := hg
  obtain ⟨L, hL⟩ := hh
  refine ⟨K + L, fun k hk => ?_⟩
  show (g k).bind _ = _
  rw [hK k (by omega)]
  exact hL k (by omega)
theorem Evt.ex {α : Type} {g : Nat → Option α} {r : α} (h : Evt g r) : ∃ k, g k = some r := by
  obtain ⟨K, hK⟩ := h
  exact ⟨K, hK K (Nat.le_refl _)⟩
end Go.Proofs.YtflmioakfboanaaDoor.Val
