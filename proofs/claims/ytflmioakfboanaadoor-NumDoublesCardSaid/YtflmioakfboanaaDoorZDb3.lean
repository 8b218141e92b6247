/-
  Part of a claim: definitions and lemmas that its theorem leans on, packed by wip/tools/pack.py.
-/
import Derived.Test.YtflmioakfboanaaDoorZDb2
import Derived.Shelf.RegionOpenPlain
import Derived.WalkKit
import Derived.Lib.Walk
import Derived.Lib.SliceRun
import Derived.Lib.JoinLaws
import Derived.Lib.AppendZeros
import Derived.Lib.AppendZerosOnto
import Derived.Lib.Overlaps
import Derived.Laws.Externs
import Derived.Laws.IdiomCopy
import Derived.Laws.NewBlocks
import Derived.Shelf.Spec.SlicesInsert
import Derived.Laws.Rows
import Derived.Laws.Strings
import Derived.Lib.Strings
import Derived.Lib.Slices
import Derived.Lib.Builder
import Derived.Lib.AppendStr
import Derived.Lib.UnsafeStr
import Derived.Laws.BitsLemmas
import Derived.Shelf.Strings.Builder1
import Derived.Shelf.Strconv.Itoa3
import Derived.Shelf.Strings.Repeat
import Derived.Shelf.LaysM
import Derived.Lib.ItoaNum
import Derived.Lib.AppendIntMem
import Derived.Test.YtflmioakfboanaaDoorRows
import Derived.Test.YtflmioakfboanaaDoorTie
import Derived.Test.YtflmioakfboanaaDoorCards
import Derived.ProofKit
import Derived.ShutString
import Derived.LaidMore
import Derived.LaidLaws
import Derived.Stop.Joined
import Derived.SevenTiedAt
set_option linter.unusedVariables false
set_option linter.unusedSimpArgs false
section
set_option linter.unusedVariables false
set_option linter.unusedSimpArgs false
namespace Go.Proofs.YtflmioakfboanaaDoor.Ev
open Go
theorem isNaN_int_ok (x : Int) : Fn Tryd.prog 89 [fzI .i64 x] [] (fzB false) [] :=
  cmp_isNaN_int_fn x (by unfold cmp_isNaN_int_H; simp)
theorem isNaN_u32_ok (x : Int) : Fn Tryd.prog 90 [fzI .u32 x] [] (fzB false) [] :=
  cmp_isNaN_uint32_fn x (by unfold cmp_isNaN_uint32_H; simp)
theorem compare_int_ok (x y : Int) : Fn Tryd.prog 66 [fzI .i64 x, fzI .i64 y] [] (fzI .i64 (cmpV x y)) [] := by
  refine cmp_Compare_int_fn x y ?_
  unfold cmp_Compare_int_H
  refine ⟨_, isNaN_int_ok x, _, isNaN_int_ok y, ?_⟩
  simp only [ints_len, ints_app, ints_snoc, ints_take, ints_drop, ints_set, ints_rep, ints_one, ex_rd, dec_t, dec_f, beq_t, beq_f, bne_t, bne_f, not_t, not_f, List.length_set, List.length_append, List.length_cons, List.length_nil, List.length_take, List.length_drop, List.length_replicate, Int.toNat_natCast, List.nil_append, Bool.not_true, Bool.not_false, Wk_nil, Wk_cons, wk1_same, wk1_f, and_true, true_and, Bool.false_eq_true, Bool.true_eq_false, false_implies, forall_const]
  repeat' (first | (with_reducible refine And.intro ?_ ?_) | (with_reducible intro _)); all_goals (try rfl)
  · rw [cmpV_lt (by assumption)]
  · rw [cmpV_gt (by assumption)]
  · rw [cmpV_eq (by omega)]
theorem compare_u32_ok (x y : Int) : Fn Tryd.prog 67 [fzI .u32 x, fzI .u32 y] [] (fzI .i64 (cmpV x y)) [] := by
  refine cmp_Compare_uint32_fn x y ?_
  unfold cmp_Compare_uint32_H
  refine ⟨_, isNaN_u32_ok x, _, isNaN_u32_ok y, ?_⟩
  simp only [ints_len, ints_app, ints_snoc, ints_take, ints_drop, ints_set, ints_rep, ints_one, ex_rd, dec_t, dec_f, beq_t, beq_f, bne_t, bne_f, not_t, not_f, List.length_set, List.length_append, List.length_cons, List.length_nil, List.length_take, List.length_drop, List.length_replicate, Int.toNat_natCast, List.nil_append, Bool.not_true, Bool.not_false, Wk_nil, Wk_cons, wk1_same, wk1_f, and_true, true_and, Bool.false_eq_true, Bool.true_eq_false, false_implies, forall_const]
  repeat' (first | (with_reducible refine And.intro ?_ ?_) | (with_reducible intro _)); all_goals (try rfl)
  · rw [cmpV_lt (by assumption)]
  · rw [cmpV_gt (by assumption)]
  · rw [cmpV_eq (by omega)]
theorem cloneO_ok (l : List Int) (hl : l.length ≤ 1000000) : Fn Tryd.prog 68 [fzS .u32 l] [] (.one (.ofl 1 0)) [.f 0 1 (ints .u32 l)] := by
  refine slices_Clone_uint32_uint32O_fn _ ?_
  unfold slices_Clone_uint32_uint32O_H
  simp only [ints_len, ints_app, ints_snoc, ints_take, ints_drop, ints_set, ints_rep, ints_one, ex_rd, dec_t, dec_f, beq_t, beq_f, bne_t, bne_f, not_t, not_f, List.length_set, List.length_append, List.length_cons, List.length_nil, List.length_take, List.length_drop, List.length_replicate, Int.toNat_natCast, List.nil_append, Bool.not_true, Bool.not_false, Wk_nil, Wk_cons, wk1_same, wk1_f, and_true, true_and, Bool.false_eq_true, Bool.true_eq_false, false_implies, forall_const, ints_eq_nil]
  repeat' (first | (with_reducible refine And.intro ?_ ?_) | (with_reducible intro _)); all_goals (try rfl)
  · subst_vars; rfl
  · omega
  · omega
theorem sound1_ok (x : Int) : Fn Tryd.prog 57 [fzI .u32 x] [] (fzB (decide (1000000000 ≤ x))) [] :=
  num_Sound_1_fn x (by unfold num_Sound_1_H; simp)
theorem indexFunc_loop (l : List Int) (hl : l.length ≤ 1000000) : ∀ (d j : Nat), j + d = l.length → (l.take j).any (fun x => decide (1000000000 ≤ x)) = false →
    ∃ n : Int, (decide (0 ≤ n) = l.any (fun x => decide (1000000000 ≤ x))) ∧ ∀ R : TV → List Ob → Prop, R (fzI .i64 n) [] → slices_IndexFunc_uint32_uint32_L0 R (ints .u32 l) j
  | 0, j, hj, h => by
    refine ⟨-1, ?_, fun R hR => slices_IndexFunc_uint32_uint32_l0 ?_⟩
    · rw [List.take_of_length_le (by omega)] at h
      rw [h]; simp
    · unfold slices_IndexFunc_uint32_uint32_R0
      simp only [ints_len, ints_app, ints_snoc, ints_take, ints_drop, ints_set, ints_rep, ints_one, ex_rd, dec_t, dec_f, beq_t, beq_f, bne_t, bne_f, not_t, not_f, List.length_set, List.length_append, List.length_cons, List.length_nil, List.length_take, List.length_drop, List.length_replicate, Int.toNat_natCast, List.nil_append, Bool.not_true, Bool.not_false, Wk_nil, Wk_cons, wk1_same, wk1_f, and_true, true_and, Bool.false_eq_true, Bool.true_eq_false, false_implies, forall_const]
      exact ⟨fun h => by omega, fun _ => hR⟩
  | d + 1, j, hj, h => by
    by_cases hx : 1000000000 ≤ rd l j
    · refine ⟨j, ?_, fun R hR => slices_IndexFunc_uint32_uint32_l0 ?_⟩
      · have : l.any (fun x => decide (1000000000 ≤ x)) = true := by
          rw [List.any_eq_true]
          exact ⟨rd l j, by rw [rd_at l j (by omega)]; exact List.getElem_mem _, by simpa using hx⟩
        rw [this]; simp
      · unfold slices_IndexFunc_uint32_uint32_R0
        simp only [ints_len, ints_app, ints_snoc, ints_take, ints_drop, ints_set, ints_rep, ints_one, ex_rd, dec_t, dec_f, beq_t, beq_f, bne_t, bne_f, not_t, not_f, List.length_set, List.length_append, List.length_cons, List.length_nil, List.length_take, List.length_drop, List.length_replicate, Int.toNat_natCast, List.nil_append, Bool.not_true, Bool.not_false, Wk_nil, Wk_cons, wk1_same, wk1_f, and_true, true_and, Bool.false_eq_true, Bool.true_eq_false, false_implies, forall_const]
        refine ⟨fun _ => ⟨by omega, by omega, _, sound1_ok _, ?_⟩, fun h => by omega⟩
        simp only [ints_len, ints_app, ints_snoc, ints_take, ints_drop, ints_set, ints_rep, ints_one, ex_rd, dec_t, dec_f, beq_t, beq_f, bne_t, bne_f, not_t, not_f, List.length_set, List.length_append, List.length_cons, List.length_nil, List.length_take, List.length_drop, List.length_replicate, Int.toNat_natCast, List.nil_append, Bool.not_true, Bool.not_false, Wk_nil, Wk_cons, wk1_same, wk1_f, and_true, true_and, Bool.false_eq_true, Bool.true_eq_false, false_implies, forall_const, hx, not_true]
        repeat' (first | (with_reducible refine And.intro ?_ ?_) | (with_reducible intro _)); all_goals (try rfl)
        exact hR
    · obtain ⟨n, h1, h2⟩ := indexFunc_loop l hl d (j + 1) (by omega) (by
        rw [List.take_succ_eq_append_getElem (by omega), List.any_append, h, ← rd_at l j (by omega)]
        simpa using hx)
      refine ⟨n, h1, fun R hR => slices_IndexFunc_uint32_uint32_l0 ?_⟩
      unfold slices_IndexFunc_uint32_uint32_R0
      simp only [ints_len, ints_app, ints_snoc, ints_take, ints_drop, ints_set, ints_rep, ints_one, ex_rd, dec_t, dec_f, beq_t, beq_f, bne_t, bne_f, not_t, not_f, List.length_set, List.length_append, List.length_cons, List.length_nil, List.length_take, List.length_drop, List.length_replicate, Int.toNat_natCast, List.nil_append, Bool.not_true, Bool.not_false, Wk_nil, Wk_cons, wk1_same, wk1_f, and_true, true_and, Bool.false_eq_true, Bool.true_eq_false, false_implies, forall_const]
      refine ⟨fun _ => ⟨by omega, by omega, _, sound1_ok _, ?_⟩, fun h => by omega⟩
      have e : IntKind.wrap .i64 ((j : Int) + 1) = ((j + 1 : Nat) : Int) := w64 (by omega) (by omega)
      simp only [ints_len, ints_app, ints_snoc, ints_take, ints_drop, ints_set, ints_rep, ints_one, ex_rd, dec_t, dec_f, beq_t, beq_f, bne_t, bne_f, not_t, not_f, List.length_set, List.length_append, List.length_cons, List.length_nil, List.length_take, List.length_drop, List.length_replicate, Int.toNat_natCast, List.nil_append, Bool.not_true, Bool.not_false, Wk_nil, Wk_cons, wk1_same, wk1_f, and_true, true_and, Bool.false_eq_true, Bool.true_eq_false, false_implies, forall_const, hx, not_false_eq_true, e]
      repeat' (first | (with_reducible refine And.intro ?_ ?_) | (with_reducible intro _)); all_goals (try rfl)
      exact h2 R hR
theorem containsFunc_ok (l : List Int) (hl : l.length ≤ 1000000) :
    Fn Tryd.prog 56 [fzS .u32 l, .one (.fz (.fn 57 []))] [] (fzB (l.any (fun x => decide (1000000000 ≤ x)))) [] := by
  obtain ⟨n, h1, h2⟩ := indexFunc_loop l hl l.length 0 (by omega) (by simp)
  refine slices_ContainsFunc_uint32_uint32_fn _ _ ?_
  unfold slices_ContainsFunc_uint32_uint32_H
  exact ⟨n, slices_IndexFunc_uint32_uint32_fn _ (h2 _ ⟨rfl, rfl⟩), by rw [h1], rfl⟩
theorem all_lt (l : List Int) : l.all (fun x => decide (x < 1000000000)) = !l.any (fun x => decide (1000000000 ≤ x)) := by
  induction l with
  | nil => rfl
  | cons x l ih =>
    simp only [List.all_cons, List.any_cons, ih, Bool.not_or]
    congr 1
    by_cases h : x < 1000000000
    · simp [h, show ¬ 1000000000 ≤ x by omega]
    · simp [h, show 1000000000 ≤ x by omega]
theorem sound_ok (s : Bool) (l : List Int) (hl : l.length ≤ 1000000) : Fn Tryd.prog 32 [fzN s l] [] (fzB (sndB s l)) [] := by
  refine num_Sound_fn _ _ ?_
  unfold num_Sound_H
  unfold sndB
  rw [all_lt]
  simp only [ints_len, ints_app, ints_snoc, ints_take, ints_drop, ints_set, ints_rep, ints_one, ex_rd, dec_t, dec_f, beq_t, beq_f, bne_t, bne_f, not_t, not_f, List.length_set, List.length_append, List.length_cons, List.length_nil, List.length_take, List.length_drop, List.length_replicate, Int.toNat_natCast, List.nil_append, Bool.not_true, Bool.not_false, Wk_nil, Wk_cons, wk1_same, wk1_f, and_true, true_and, Bool.false_eq_true, Bool.true_eq_false, false_implies, forall_const]
  refine ⟨fun h => ?_, fun h => ⟨fun h2 => ?_, fun h2 => ?_⟩⟩
  · have : l = [] := List.length_eq_zero_iff.1 (by omega)
    subst this
    simp
  · have e : IntKind.wrap .i64 ((l.length : Int) - 1) = ((l.length - 1 : Nat) : Int) := by rw [w64 (by omega) (by omega)]; omega
    simp only [e, Int.toNat_natCast]
    have h3 : l.length ≤ 64 := by omega
    have h4 : l.length ≠ 0 := by omega
    refine ⟨by omega, by omega, fun h5 => ⟨_, containsFunc_ok l hl, ?_⟩, fun h5 => ?_⟩
    · simp [h3, h4, h5]
    · simp [h4, h5]
  · have h3 : ¬ l.length ≤ 64 := by omega
    simp [h3]
theorem size_loop (a b : List Int) (hlen : a.length = b.length) (ha : a.length ≤ 1000000) (hLa : Lim 1000000000 a) (hLb : Lim 1000000000 b) (R : TV → List Ob → Prop) (hR : R (fzI .i64 (cmpV (val 1000000000 a) (val 1000000000 b))) []) :
    ∀ i : Nat, i ≤ a.length → a.drop i = b.drop i → num_size_L0 R (ints .u32 a) (ints .u32 b) ((i : Int) - 1)
  | 0, _, hd => by
    have e : a = b := by simpa using hd
    subst e
    rw [cmpV_eq rfl] at hR
    refine num_size_l0 ?_
    unfold num_size_R0
    simp only [ints_len, ints_app, ints_snoc, ints_take, ints_drop, ints_set, ints_rep, ints_one, ex_rd, dec_t, dec_f, beq_t, beq_f, bne_t, bne_f, not_t, not_f, List.length_set, List.length_append, List.length_cons, List.length_nil, List.length_take, List.length_drop, List.length_replicate, Int.toNat_natCast, List.nil_append, Bool.not_true, Bool.not_false, Wk_nil, Wk_cons, wk1_same, wk1_f, and_true, true_and, Bool.false_eq_true, Bool.true_eq_false, false_implies, forall_const]
    exact ⟨fun h => by omega, fun _ => hR⟩
  | i + 1, hi, hd => by
    have e1 : (((i + 1 : Nat) : Int) - 1) = (i : Int) := by omega
    rw [e1]
    refine num_size_l0 ?_
    unfold num_size_R0
    simp only [ints_len, ints_app, ints_snoc, ints_take, ints_drop, ints_set, ints_rep, ints_one, ex_rd, dec_t, dec_f, beq_t, beq_f, bne_t, bne_f, not_t, not_f, List.length_set, List.length_append, List.length_cons, List.length_nil, List.length_take, List.length_drop, List.length_replicate, Int.toNat_natCast, List.nil_append, Bool.not_true, Bool.not_false, Wk_nil, Wk_cons, wk1_same, wk1_f, and_true, true_and, Bool.false_eq_true, Bool.true_eq_false, false_implies, forall_const]
    refine ⟨fun _ => ⟨by omega, by omega, by omega, by omega, _, compare_u32_ok _ _, ?_⟩, fun h => by omega⟩
    by_cases h1 : rd a i > rd b i
    · rw [cmpV_gt (lt_at (by omega) hLb hLa i (by omega) (by omega) hd.symm h1)] at hR
      rw [cmpV_gt h1]
      exact ⟨fun _ => hR, fun h => by omega⟩
    · by_cases h2 : rd a i < rd b i
      · rw [cmpV_lt (lt_at (by omega) hLa hLb i (by omega) (by omega) hd h2)] at hR
        rw [cmpV_lt h2]
        exact ⟨fun _ => hR, fun h => by omega⟩
      · rw [cmpV_eq (show rd a i = rd b i by omega), w64 (by omega) (by omega)]
        exact ⟨fun h => absurd rfl h, fun _ => size_loop a b hlen ha hLa hLb R hR i (by omega) (drop_step hlen i (by omega) hd (by omega))⟩
theorem size_ok (a b : List Int) (ha : a.length ≤ 1000000) (hb : b.length ≤ 1000000) (hLa : Lim 1000000000 a) (hLb : Lim 1000000000 b) (na : Norm a) (nb : Norm b) :
    Fn Tryd.prog 43 [fzS .u32 a, fzS .u32 b] [] (fzI .i64 (cmpV (val 1000000000 a) (val 1000000000 b))) [] := by
  refine num_size_fn _ _ ?_
  unfold num_size_H
  simp only [ints_len, ints_app, ints_snoc, ints_take, ints_drop, ints_set, ints_rep, ints_one, ex_rd, dec_t, dec_f, beq_t, beq_f, bne_t, bne_f, not_t, not_f, List.length_set, List.length_append, List.length_cons, List.length_nil, List.length_take, List.length_drop, List.length_replicate, Int.toNat_natCast, List.nil_append, Bool.not_true, Bool.not_false, Wk_nil, Wk_cons, wk1_same, wk1_f, and_true, true_and, Bool.false_eq_true, Bool.true_eq_false, false_implies, forall_const]
  refine ⟨_, compare_int_ok _ _, ?_⟩
  by_cases h : a.length = b.length
  · rw [cmpV_eq (show (a.length : Int) = b.length by omega), w64 (by omega) (by omega)]
    exact ⟨fun h => absurd rfl h, fun _ => size_loop a b h ha hLa hLb _ ⟨rfl, rfl⟩ a.length (Nat.le_refl _) (by rw [List.drop_length, h, List.drop_length])⟩
  · by_cases h2 : b.length < a.length
    · rw [cmpV_gt (show (b.length : Int) < a.length by omega), cmpV_gt (lt_len (by omega) hLb hLa na h2)]
      exact ⟨fun _ => rfl, fun h => by omega⟩
    · rw [cmpV_lt (show (a.length : Int) < b.length by omega), cmpV_lt (lt_len (by omega) hLa hLb nb (by omega))]
      exact ⟨fun _ => rfl, fun h => by omega⟩
theorem cut_loop (R : TV → List Ob → Prop) : ∀ (n : Nat) (l : List Int), l.length = n → n ≤ 1000000 → Lim 1000000000 l → R (fzS .u32 (digs 1000000000 (val 1000000000 l).toNat)) [] → num_cut_L0 R (ints .u32 l)
  | 0, l, hn, _, hL, hR => by
    obtain rfl := List.length_eq_zero_iff.1 hn
    refine num_cut_l0 ?_
    unfold num_cut_R0
    simp only [ints_len, ints_app, ints_snoc, ints_take, ints_drop, ints_set, ints_rep, ints_one, ex_rd, dec_t, dec_f, beq_t, beq_f, bne_t, bne_f, not_t, not_f, List.length_set, List.length_append, List.length_cons, List.length_nil, List.length_take, List.length_drop, List.length_replicate, Int.toNat_natCast, List.nil_append, Bool.not_true, Bool.not_false, Wk_nil, Wk_cons, wk1_same, wk1_f, and_true, true_and, Bool.false_eq_true, Bool.true_eq_false, false_implies, forall_const]
    refine ⟨fun h => by omega, fun _ => ?_⟩
    have e : (val 1000000000 []).toNat = 0 := rfl
    rw [e, digs_zero] at hR
    exact hR
  | n + 1, l, hn, hb, hL, hR => by
    refine num_cut_l0 ?_
    unfold num_cut_R0
    have e : IntKind.wrap .i64 ((l.length : Int) - 1) = (n : Nat) := by rw [w64 (by omega) (by omega)]; omega
    simp only [ints_len, ints_app, ints_snoc, ints_take, ints_drop, ints_set, ints_rep, ints_one, ex_rd, dec_t, dec_f, beq_t, beq_f, bne_t, bne_f, not_t, not_f, List.length_set, List.length_append, List.length_cons, List.length_nil, List.length_take, List.length_drop, List.length_replicate, Int.toNat_natCast, List.nil_append, Bool.not_true, Bool.not_false, Wk_nil, Wk_cons, wk1_same, wk1_f, and_true, true_and, Bool.false_eq_true, Bool.true_eq_false, false_implies, forall_const, e]
    refine ⟨fun _ => ⟨by omega, by omega, fun h0 => ⟨by omega, ?_⟩, fun h0 => ?_⟩, fun h => by omega⟩
    · refine cut_loop R n _ (by simp; omega) (by omega) (hL.take n) ?_
      have := val_take_succ 1000000000 l n
      rw [List.take_of_length_le (by omega), h0, Int.mul_zero, Int.add_zero] at this
      rwa [← this]
    · have hnm : Norm l := norm_of_rd fun _ => by rw [hn]; exact h0
      rwa [digsB_eq hL hnm] at hR
theorem cut_ok (l : List Int) (hl : l.length ≤ 1000000) (hL : Lim 1000000000 l) : Fn Tryd.prog 48 [fzS .u32 l] [] (fzS .u32 (digs 1000000000 (val 1000000000 l).toNat)) [] :=
  num_cut_fn _ (cut_loop _ _ l rfl hl hL ⟨rfl, rfl⟩)
theorem cutO_loop (R : TV → List Ob → Prop) : ∀ (n : Nat) (l : List Int), l.length = n → n ≤ 1000000 → Lim 1000000000 l → R (.one (.ofl 1 1)) [.no, .f 0 1 (ints .u32 (digs 1000000000 (val 1000000000 l).toNat))] → num_cutO_L1 R (ints .u32 l)
  | 0, l, hn, _, hL, hR => by
    obtain rfl := List.length_eq_zero_iff.1 hn
    refine num_cutO_l1 ?_
    unfold num_cutO_R1
    simp only [ints_len, ints_app, ints_snoc, ints_take, ints_drop, ints_set, ints_rep, ints_one, ex_rd, dec_t, dec_f, beq_t, beq_f, bne_t, bne_f, not_t, not_f, List.length_set, List.length_append, List.length_cons, List.length_nil, List.length_take, List.length_drop, List.length_replicate, Int.toNat_natCast, List.nil_append, Bool.not_true, Bool.not_false, Wk_nil, Wk_cons, wk1_same, wk1_f, and_true, true_and, Bool.false_eq_true, Bool.true_eq_false, false_implies, forall_const]
    refine ⟨fun h => by omega, fun _ => ?_⟩
    have e : (val 1000000000 []).toNat = 0 := rfl
    rw [e, digs_zero] at hR
    exact hR
  | n + 1, l, hn, hb, hL, hR => by
    refine num_cutO_l1 ?_
    unfold num_cutO_R1
    have e : IntKind.wrap .i64 ((l.length : Int) - 1) = (n : Nat) := by rw [w64 (by omega) (by omega)]; omega
    simp only [ints_len, ints_app, ints_snoc, ints_take, ints_drop, ints_set, ints_rep, ints_one, ex_rd, dec_t, dec_f, beq_t, beq_f, bne_t, bne_f, not_t, not_f, List.length_set, List.length_append, List.length_cons, List.length_nil, List.length_take, List.length_drop, List.length_replicate, Int.toNat_natCast, List.nil_append, Bool.not_true, Bool.not_false, Wk_nil, Wk_cons, wk1_same, wk1_f, and_true, true_and, Bool.false_eq_true, Bool.true_eq_false, false_implies, forall_const, e]
    refine ⟨fun _ => ⟨by omega, by omega, fun h0 => ⟨by omega, ?_⟩, fun h0 => ?_⟩, fun h => by omega⟩
    · refine cutO_loop R n _ (by simp; omega) (by omega) (hL.take n) ?_
      have := val_take_succ 1000000000 l n
      rw [List.take_of_length_le (by omega), h0, Int.mul_zero, Int.add_zero] at this
      rwa [← this]
    · have hnm : Norm l := norm_of_rd fun _ => by rw [hn]; exact h0
      rwa [digsB_eq hL hnm] at hR
theorem cutO_ok (l : List Int) (hl : l.length ≤ 1000000) (hL : Lim 1000000000 l) :
    Fn Tryd.prog 48 [.one (.ofl 1 0)] [.f 0 1 (ints .u32 l)] (.one (.ofl 1 1)) [.no, .f 0 1 (ints .u32 (digs 1000000000 (val 1000000000 l).toNat))] := by
  by_cases hn : Norm l
  · refine Fn.move ?_
    rw [digsB_eq hL hn]
    refine num_cutO_fn _ (num_cutO_l0 ?_)
    unfold num_cutO_R0
    rcases Nat.eq_zero_or_pos l.length with h0 | h0
    · simp only [ints_len, ints_app, ints_snoc, ints_take, ints_drop, ints_set, ints_rep, ints_one, ex_rd, dec_t, dec_f, beq_t, beq_f, bne_t, bne_f, not_t, not_f, List.length_set, List.length_append, List.length_cons, List.length_nil, List.length_take, List.length_drop, List.length_replicate, Int.toNat_natCast, List.nil_append, Bool.not_true, Bool.not_false, Wk_nil, Wk_cons, wk1_same, wk1_f, and_true, true_and, Bool.false_eq_true, Bool.true_eq_false, false_implies, forall_const]
      exact ⟨fun h => by omega, fun _ => trivial⟩
    · have e : IntKind.wrap .i64 ((l.length : Int) - 1) = ((l.length - 1 : Nat) : Int) := by rw [w64 (by omega) (by omega)]; omega
      have h1 := norm_rd hn h0
      simp only [ints_len, ints_app, ints_snoc, ints_take, ints_drop, ints_set, ints_rep, ints_one, ex_rd, dec_t, dec_f, beq_t, beq_f, bne_t, bne_f, not_t, not_f, List.length_set, List.length_append, List.length_cons, List.length_nil, List.length_take, List.length_drop, List.length_replicate, Int.toNat_natCast, List.nil_append, Bool.not_true, Bool.not_false, Wk_nil, Wk_cons, wk1_same, wk1_f, and_true, true_and, Bool.false_eq_true, Bool.true_eq_false, false_implies, forall_const, e]
      exact ⟨fun _ => ⟨by omega, by omega, fun h => absurd h h1, fun _ => trivial⟩, fun _ => trivial⟩
  · refine num_cutO_fn _ (num_cutO_l0 ?_)
    unfold num_cutO_R0
    have h0 : 0 < l.length := Nat.pos_of_ne_zero fun h => hn (by rw [List.length_eq_zero_iff.1 h]; exact Norm.nil)
    have h1 : rd l (l.length - 1) = 0 := Decidable.byContradiction fun h => hn (norm_of_rd fun _ => h)
    have e : IntKind.wrap .i64 ((l.length : Int) - 1) = ((l.length - 1 : Nat) : Int) := by rw [w64 (by omega) (by omega)]; omega
    simp only [ints_len, ints_app, ints_snoc, ints_take, ints_drop, ints_set, ints_rep, ints_one, ex_rd, dec_t, dec_f, beq_t, beq_f, bne_t, bne_f, not_t, not_f, List.length_set, List.length_append, List.length_cons, List.length_nil, List.length_take, List.length_drop, List.length_replicate, Int.toNat_natCast, List.nil_append, Bool.not_true, Bool.not_false, Wk_nil, Wk_cons, wk1_same, wk1_f, and_true, true_and, Bool.false_eq_true, Bool.true_eq_false, false_implies, forall_const, e]
    refine ⟨fun _ => ⟨by omega, by omega, fun _ => ⟨by omega, ?_⟩, fun h => absurd h1 h⟩, fun h => by omega⟩
    have h2 := val_take_succ 1000000000 l (l.length - 1)
    rw [List.take_of_length_le (by omega), h1, Int.mul_zero, Int.add_zero] at h2
    exact cutO_loop _ (l.length - 1) _ (by simp) (by omega) (hL.take _) (by rw [← h2]; exact ⟨rfl, Wk.refl _⟩)
theorem ring_plus (vx p c ta tb A B q : Int) (h : vx + p * c = ta + tb) : vx + p * (A + c + B - 1000000000 * q) + p * 1000000000 * q = ta + p * A + (tb + p * B) := by grind
theorem ring_minus (vx p c ta tb A B e M : Int) (h : vx - p * c = ta - tb) : vx + p * (A + M * e - (c + B)) - p * M * e = ta + p * A - (tb + p * B) := by grind
theorem plus_loop (a b : List Int) (ha : a.length ≤ 1000000) (hb : b.length ≤ a.length) (hLa : Lim 1000000000 a) (hLb : Lim 1000000000 b) : ∀ (d i : Nat) (x : List Int) (c : Int), i + d = a.length → x.length = i → Lim 1000000000 x → 0 ≤ c → c ≤ 1 → val 1000000000 x + 1000000000 ^ i * c = val 1000000000 (a.take i) + val 1000000000 (b.take i) →
    ∃ r : List Int, r.length = a.length + 1 ∧ Lim 1000000000 r ∧ val 1000000000 r = val 1000000000 a + val 1000000000 b ∧ ∀ R : TV → List Ob → Prop, R (fzS .u32 r) [] → num_plus_L0 R (ints .u32 b) c (ints .u32 a) a.length i (ints .u32 x)
  | 0, i, x, c, hi, hx, hL, h0, h1, hv => by
    refine ⟨x ++ [c], by simp [hx]; omega, hL.snoc h0 (by omega), ?_, fun R hR => num_plus_l0 ?_⟩
    · rw [val_snoc, hx, hv, List.take_of_length_le (by omega), List.take_of_length_le (by omega)]
    · unfold num_plus_R0
      simp only [ints_len, ints_app, ints_snoc, ints_take, ints_drop, ints_set, ints_rep, ints_one, ex_rd, dec_t, dec_f, beq_t, beq_f, bne_t, bne_f, not_t, not_f, List.length_set, List.length_append, List.length_cons, List.length_nil, List.length_take, List.length_drop, List.length_replicate, Int.toNat_natCast, List.nil_append, Bool.not_true, Bool.not_false, Wk_nil, Wk_cons, wk1_same, wk1_f, and_true, true_and, Bool.false_eq_true, Bool.true_eq_false, false_implies, forall_const]
      exact ⟨fun h => by omega, fun _ => ⟨by omega, hR⟩⟩
  | d + 1, i, x, c, hi, hx, hL, h0, h1, hv => by
    have ga := hLa.rd (by omega) i
    have gb := hLb.rd (by omega) i
    have va := val_take_succ 1000000000 a i
    have vb := val_take_succ 1000000000 b i
    generalize hA : rd a i = A at ga va
    generalize hB : rd b i = B at gb vb
    have hT : 1000000000 * ((A + c + B) / 1000000000) + (A + c + B) % 1000000000 = A + c + B := Int.mul_ediv_add_emod _ _
    obtain ⟨r, r1, r2, r3, r4⟩ := plus_loop a b ha hb hLa hLb d (i + 1) (x ++ [(A + c + B) % 1000000000]) ((A + c + B) / 1000000000) (by omega) (by simp [hx]) (hL.snoc (by omega) (by omega)) (by omega) (by omega) (by
      rw [val_snoc, hx, va, vb, Int.pow_succ]
      generalize (A + c + B) / 1000000000 = q at hT
      generalize (A + c + B) % 1000000000 = m at hT
      have hm : m = A + c + B - 1000000000 * q := by omega
      rw [hm]
      exact ring_plus _ _ _ _ _ _ _ _ hv)
    refine ⟨r, r1, r2, r3, fun R hR => num_plus_l0 ?_⟩
    have e1 : IntKind.wrap .u32 (A + c) = A + c := wu32 (by omega) (by omega)
    have e2 : IntKind.wrap .u32 (A + c + B) = A + c + B := wu32 (by omega) (by omega)
    have e3 : IntKind.wrap .i64 ((i : Int) + 1) = ((i + 1 : Nat) : Int) := w64 (by omega) (by omega)
    have e4 : Int.tmod (A + c + B) 1000000000 = (A + c + B) % 1000000000 := Int.tmod_eq_emod_of_nonneg (by omega)
    have e5 : Int.tdiv (A + c + B) 1000000000 = (A + c + B) / 1000000000 := Int.tdiv_eq_ediv_of_nonneg (by omega)
    have e6 : IntKind.wrap .u32 ((A + c + B) / 1000000000) = (A + c + B) / 1000000000 := wu32 (by omega) (by omega)
    unfold num_plus_R0
    simp only [ints_len, ints_app, ints_snoc, ints_take, ints_drop, ints_set, ints_rep, ints_one, ex_rd, dec_t, dec_f, beq_t, beq_f, bne_t, bne_f, not_t, not_f, List.length_set, List.length_append, List.length_cons, List.length_nil, List.length_take, List.length_drop, List.length_replicate, Int.toNat_natCast, List.nil_append, Bool.not_true, Bool.not_false, Wk_nil, Wk_cons, wk1_same, wk1_f, and_true, true_and, Bool.false_eq_true, Bool.true_eq_false, false_implies, forall_const, hA, hB, e1, e2, e3, e4, e5, e6]
    refine ⟨fun _ => ⟨by omega, by omega, fun h2 => ⟨by omega, by omega, by omega, by omega, by omega, r4 R hR⟩, fun h2 => ?_⟩, fun h => by omega⟩
    have hB0 : B = 0 := by rw [← hB]; exact rd_out b i (by omega)
    subst hB0
    rw [Int.add_zero] at e4 e5 e6 r4
    simp only [e4, e5, e6]
    exact ⟨by omega, by omega, by omega, r4 R hR⟩
theorem plus_ok (a b : List Int) (ha : a.length ≤ 1000000) (hb : b.length ≤ 1000000) (hLa : Lim 1000000000 a) (hLb : Lim 1000000000 b) :
    ∃ r : List Int, r.length ≤ max a.length b.length + 1 ∧ Lim 1000000000 r ∧ val 1000000000 r = val 1000000000 a + val 1000000000 b ∧ Fn Tryd.prog 42 [fzS .u32 a, fzS .u32 b] [] (fzS .u32 r) [] := by
  by_cases h : (a.length : Int) < (b.length : Int)
  · obtain ⟨r, r1, r2, r3, r4⟩ := plus_loop b a hb (by omega) hLb hLa b.length 0 [] 0 (by omega) rfl (Lim.nil _) (by omega) (by omega) (by simp [val])
    refine ⟨r, by omega, r2, by omega, num_plus_fn _ _ ?_⟩
    unfold num_plus_H
    rw [ints_len, ints_len, w64 (n := (b.length : Int) + 1) (by omega) (by omega)]
    simp only [ints_len, ints_app, ints_snoc, ints_take, ints_drop, ints_set, ints_rep, ints_one, ex_rd, dec_t, dec_f, beq_t, beq_f, bne_t, bne_f, not_t, not_f, List.length_set, List.length_append, List.length_cons, List.length_nil, List.length_take, List.length_drop, List.length_replicate, Int.toNat_natCast, List.nil_append, Bool.not_true, Bool.not_false, Wk_nil, Wk_cons, wk1_same, wk1_f, and_true, true_and, Bool.false_eq_true, Bool.true_eq_false, false_implies, forall_const, h, not_true]
    exact ⟨⟨by omega, by omega, by omega⟩, r4 _ ⟨rfl, rfl⟩⟩
  · obtain ⟨r, r1, r2, r3, r4⟩ := plus_loop a b ha (by omega) hLa hLb a.length 0 [] 0 (by omega) rfl (Lim.nil _) (by omega) (by omega) (by simp [val])
    refine ⟨r, by omega, r2, r3, num_plus_fn _ _ ?_⟩
    unfold num_plus_H
    rw [ints_len, ints_len, w64 (n := (a.length : Int) + 1) (by omega) (by omega)]
    simp only [ints_len, ints_app, ints_snoc, ints_take, ints_drop, ints_set, ints_rep, ints_one, ex_rd, dec_t, dec_f, beq_t, beq_f, bne_t, bne_f, not_t, not_f, List.length_set, List.length_append, List.length_cons, List.length_nil, List.length_take, List.length_drop, List.length_replicate, Int.toNat_natCast, List.nil_append, Bool.not_true, Bool.not_false, Wk_nil, Wk_cons, wk1_same, wk1_f, and_true, true_and, Bool.false_eq_true, Bool.true_eq_false, false_implies, forall_const, h, not_false_eq_true]
    exact ⟨⟨by omega, by omega, by omega⟩, r4 _ ⟨rfl, rfl⟩⟩
theorem minus_loop (a b : List Int) (ha : a.length ≤ 1000000) (hLa : Lim 1000000000 a) (hLb : Lim 1000000000 b) : ∀ (d i : Nat) (x : List Int) (c : Int), i + d = a.length → x.length = a.length → Lim 1000000000 x → x.drop i = a.drop i → 0 ≤ c → c ≤ 1 → val 1000000000 (x.take i) - 1000000000 ^ i * c = val 1000000000 (a.take i) - val 1000000000 (b.take i) →
    ∃ (r : List Int) (c' : Int), r.length = a.length ∧ Lim 1000000000 r ∧ 0 ≤ c' ∧ val 1000000000 r - 1000000000 ^ a.length * c' = val 1000000000 a - val 1000000000 (b.take a.length) ∧ ∀ R : TV → List Ob → Prop, R (.one (.ofl 1 0)) [.f 0 1 (ints .u32 r)] → num_minusO_L0 R (ints .u32 b) c a.length i (ints .u32 x)
  | 0, i, x, c, hi, hx, hL, hd, h0, h1, hv => by
    refine ⟨x, c, hx, hL, h0, ?_, fun R hR => num_minusO_l0 ?_⟩
    · have e : i = a.length := by omega
      subst e
      rwa [List.take_of_length_le (by omega), List.take_of_length_le (by omega)] at hv
    · unfold num_minusO_R0
      simp only [ints_len, ints_app, ints_snoc, ints_take, ints_drop, ints_set, ints_rep, ints_one, ex_rd, dec_t, dec_f, beq_t, beq_f, bne_t, bne_f, not_t, not_f, List.length_set, List.length_append, List.length_cons, List.length_nil, List.length_take, List.length_drop, List.length_replicate, Int.toNat_natCast, List.nil_append, Bool.not_true, Bool.not_false, Wk_nil, Wk_cons, wk1_same, wk1_f, and_true, true_and, Bool.false_eq_true, Bool.true_eq_false, false_implies, forall_const]
      exact ⟨fun h => by omega, fun _ => hR⟩
  | d + 1, i, x, c, hi, hx, hL, hd, h0, h1, hv => by
    have hxa := rd_drop (l := x) (m := a) (i := i) (by omega) (by omega) hd
    have ga := hLa.rd (by omega) i
    have gb := hLb.rd (by omega) i
    have va := val_take_succ 1000000000 a i
    have vb := val_take_succ 1000000000 b i
    generalize hA : rd a i = A at ga va hxa
    generalize hB : rd b i = B at gb vb
    have hd2 : x.drop (i + 1) = a.drop (i + 1) := by
      rw [List.drop_eq_getElem_cons (l := x) (i := i) (by omega), List.drop_eq_getElem_cons (l := a) (i := i) (by omega)] at hd
      exact (List.cons.inj hd).2
    have key : ∀ (e v : Int), v = A + 1000000000 * e - (c + B) → 0 ≤ v → v < 1000000000 → 0 ≤ e → e ≤ 1 →
        ∃ (r : List Int) (c' : Int), r.length = a.length ∧ Lim 1000000000 r ∧ 0 ≤ c' ∧ val 1000000000 r - 1000000000 ^ a.length * c' = val 1000000000 a - val 1000000000 (b.take a.length) ∧ ∀ R : TV → List Ob → Prop, R (.one (.ofl 1 0)) [.f 0 1 (ints .u32 r)] → num_minusO_L0 R (ints .u32 b) e a.length ((i + 1 : Nat) : Int) (ints .u32 (x.set i v)) := by
      intro e v hv2 hv0 hv1 he0 he1
      refine minus_loop a b ha hLa hLb d (i + 1) (x.set i v) e (by omega) (by simp [hx]) (hL.set _ _ hv0 hv1) (by rw [drop_set]; exact hd2) he0 he1 ?_
      rw [take_set i (by omega), val_snoc, List.length_take, Nat.min_eq_left (by omega), va, vb, Int.pow_succ, hv2]
      exact ring_minus _ _ _ _ _ _ _ _ _ hv
    have hset : ∀ u v : Int, (x.set i u).set i v = x.set i v := by intro u v; rw [List.set_set]
    have hrd : ∀ u : Int, rd (x.set i u) i = u := fun u => rd_set (by omega) u
    have e3 : IntKind.wrap .i64 ((i : Int) + 1) = ((i + 1 : Nat) : Int) := w64 (by omega) (by omega)
    have m1 : IntKind.wrap .u32 (c + B) = c + B := wu32 (by omega) (by omega)
    have m2 : IntKind.wrap .u32 (A + 1000000000) = A + 1000000000 := wu32 (by omega) (by omega)
    by_cases hlt : A < c + B
    · obtain ⟨r, c', r1, r2, r3, r4, r5⟩ := key 1 (A + 1000000000 - (c + B)) (by omega) (by omega) (by omega) (by omega) (by omega)
      refine ⟨r, c', r1, r2, r3, r4, fun R hR => num_minusO_l0 ?_⟩
      have m3 : IntKind.wrap .u32 (A + 1000000000 - (c + B)) = A + 1000000000 - (c + B) := wu32 (by omega) (by omega)
      unfold num_minusO_R0
      simp only [ints_len, ints_app, ints_snoc, ints_take, ints_drop, ints_set, ints_rep, ints_one, ex_rd, dec_t, dec_f, beq_t, beq_f, bne_t, bne_f, not_t, not_f, List.length_set, List.length_append, List.length_cons, List.length_nil, List.length_take, List.length_drop, List.length_replicate, Int.toNat_natCast, List.nil_append, Bool.not_true, Bool.not_false, Wk_nil, Wk_cons, wk1_same, wk1_f, and_true, true_and, Bool.false_eq_true, Bool.true_eq_false, false_implies, forall_const, hxa, hA, hB, hset, hrd, e3, m1, m2, m3, hlt, not_true]
      refine ⟨fun _ => ⟨fun h2 => ?_, fun h2 => ?_⟩, fun h => by omega⟩
      · repeat' (first | (with_reducible refine And.intro ?_ ?_) | (with_reducible intro _)); all_goals (try rfl)
        all_goals first | omega | exact r5 R hR
      have hB0 : B = 0 := by rw [← hB]; exact rd_out b i (by omega)
      subst hB0
      rw [Int.add_zero] at m3 hlt r5
      simp only [m3, hlt]
      repeat' (first | (with_reducible refine And.intro ?_ ?_) | (with_reducible intro _)); all_goals (try rfl)
      all_goals first | omega | exact r5 R hR | contradiction
    · obtain ⟨r, c', r1, r2, r3, r4, r5⟩ := key 0 (A - (c + B)) (by omega) (by omega) (by omega) (by omega) (by omega)
      refine ⟨r, c', r1, r2, r3, r4, fun R hR => num_minusO_l0 ?_⟩
      have m3 : IntKind.wrap .u32 (A - (c + B)) = A - (c + B) := wu32 (by omega) (by omega)
      unfold num_minusO_R0
      simp only [ints_len, ints_app, ints_snoc, ints_take, ints_drop, ints_set, ints_rep, ints_one, ex_rd, dec_t, dec_f, beq_t, beq_f, bne_t, bne_f, not_t, not_f, List.length_set, List.length_append, List.length_cons, List.length_nil, List.length_take, List.length_drop, List.length_replicate, Int.toNat_natCast, List.nil_append, Bool.not_true, Bool.not_false, Wk_nil, Wk_cons, wk1_same, wk1_f, and_true, true_and, Bool.false_eq_true, Bool.true_eq_false, false_implies, forall_const, hxa, hA, hB, hset, hrd, e3, m1, m3, hlt, not_false_eq_true]
      refine ⟨fun _ => ⟨fun h2 => ?_, fun h2 => ?_⟩, fun h => by omega⟩
      · repeat' (first | (with_reducible refine And.intro ?_ ?_) | (with_reducible intro _)); all_goals (try rfl)
        all_goals first | omega | exact r5 R hR
      have hB0 : B = 0 := by rw [← hB]; exact rd_out b i (by omega)
      subst hB0
      rw [Int.add_zero] at m3 hlt r5
      simp only [m3, hlt]
      repeat' (first | (with_reducible refine And.intro ?_ ?_) | (with_reducible intro _)); all_goals (try rfl)
      all_goals first | omega | exact r5 R hR | contradiction
theorem minusO_ok (a b : List Int) (ha : a.length ≤ 1000000) (hLa : Lim 1000000000 a) (hLb : Lim 1000000000 b) (nb : Norm b) (hle : val 1000000000 b ≤ val 1000000000 a) :
    ∃ r : List Int, r.length = a.length ∧ Lim 1000000000 r ∧ val 1000000000 r = val 1000000000 a - val 1000000000 b ∧ Fn Tryd.prog 44 [fzS .u32 a, fzS .u32 b] [] (.one (.ofl 1 0)) [.f 0 1 (ints .u32 r)] := by
  have hbl : b.length ≤ a.length := by
    apply Decidable.byContradiction
    intro hc
    have := lt_len (B := 1000000000) (by omega) hLa hLb nb (by omega)
    omega
  obtain ⟨r, c', r1, r2, r3, r4, r5⟩ := minus_loop a b ha hLa hLb a.length 0 a 0 (by omega) rfl hLa rfl (by omega) (by omega) (by simp [val])
  rw [List.take_of_length_le hbl] at r4
  have hlt := val_lt (B := 1000000000) (by omega) r2
  have hb0 := val_nonneg (B := 1000000000) (by omega) hLb
  rw [r1] at hlt
  have hc : c' = 0 := by
    apply Decidable.byContradiction
    intro hne
    have h1 := pow_pos' (B := 1000000000) (by omega) a.length
    have h2 : (1000000000 : Int) ^ a.length * 1 ≤ 1000000000 ^ a.length * c' := Int.mul_le_mul_of_nonneg_left (by omega) (by omega)
    omega
  subst hc
  refine ⟨r, r1, r2, by omega, num_minusO_fn _ _ ?_⟩
  unfold num_minusO_H
  refine ⟨_, cloneO_ok a ha, ?_⟩
  rw [ints_len]
  exact r5 _ ⟨rfl, Wk.refl _⟩
theorem minus_ok (a b : List Int) (ha : a.length ≤ 1000000) (hLa : Lim 1000000000 a) (hLb : Lim 1000000000 b) (nb : Norm b) (hle : val 1000000000 b ≤ val 1000000000 a) :
    ∃ r : List Int, r.length = a.length ∧ Lim 1000000000 r ∧ val 1000000000 r = val 1000000000 a - val 1000000000 b ∧ Fn Tryd.prog 44 [fzS .u32 a, fzS .u32 b] [] (fzS .u32 r) [] := by
  obtain ⟨r, r1, r2, r3, r4⟩ := minusO_ok a b ha hLa hLb nb hle
  exact ⟨r, r1, r2, r3, r4.frz (rd := [0]) rfl⟩
end Go.Proofs.YtflmioakfboanaaDoor.Ev
end
section
set_option linter.unusedVariables false
set_option linter.unusedSimpArgs false
namespace Go.Proofs.YtflmioakfboanaaDoor.Ev
open Go
abbrev tupNE (s : Bool) (l : List Int) (e : Int) : TV := .tup [(true, [.fz (.bool s), .fz (.sl 1 (ints .u32 l))]), (false, [.fz (.int .i64 e)])]
def outS (z : Int) : Bool := if 64 < (bigL z).length then false else bigN z
def outL (z : Int) : List Int := if 64 < (bigL z).length then [] else bigL z
def outE (z : Int) : Int := if 64 < (bigL z).length then 6 else 0
abbrev outT (z : Int) : TV := tupNE (outS z) (outL z) (outE z)
theorem sgn_val (s : Bool) (l : List Int) (hL : Lim 1000000000 l) : digs 1000000000 (val 1000000000 l).toNat = bigL (sv s l) := by
  have := val_nonneg (B := 1000000000) (by omega) hL
  unfold bigL sv
  congr 1
  split <;> omega
theorem of_ok (s : Bool) (l : List Int) (hl : l.length ≤ 1000000) (hL : Lim 1000000000 l) : Fn Tryd.prog 39 [fzB s, fzS .u32 l] [] (outT (sv s l)) [] := by
  have h0 := val_nonneg (B := 1000000000) (by omega) hL
  refine num_of_fn _ _ ?_
  unfold num_of_H
  refine ⟨_, cut_ok l hl hL, ?_⟩
  have hz := bigL_nil (sv s l)
  rw [sgn_val s l hL]
  unfold outT outS outL outE
  simp only [ints_len, ints_app, ints_snoc, ints_take, ints_drop, ints_set, ints_rep, ints_one, ex_rd, dec_t, dec_f, beq_t, beq_f, bne_t, bne_f, not_t, not_f, List.length_set, List.length_append, List.length_cons, List.length_nil, List.length_take, List.length_drop, List.length_replicate, Int.toNat_natCast, List.nil_append, Bool.not_true, Bool.not_false, Wk_nil, Wk_cons, wk1_same, wk1_f, and_true, true_and, Bool.false_eq_true, Bool.true_eq_false, false_implies, forall_const]
  refine ⟨fun h => ?_, fun h => ?_⟩
  · rw [if_pos (by omega), if_pos (by omega), if_pos (by omega)]; rfl
  · rw [if_neg (by omega), if_neg (by omega), if_neg (by omega)]
    refine ⟨fun hs => ?_, fun hs => ?_⟩
    · have : decide ((0 : Int) < ((bigL (sv s l)).length : Nat)) = bigN (sv s l) := by
        unfold bigN
        rw [decide_eq_decide]
        have h1 : (bigL (sv s l)).length = 0 ↔ sv s l = 0 := by rw [List.length_eq_zero_iff, hz]
        have h2 : sv s l ≤ 0 := by unfold sv; rw [if_pos hs]; omega
        omega
      rw [this]
    · have : bigN (sv s l) = false := by
        unfold bigN sv
        rw [if_neg (by simp [hs])]
        simpa using h0
      rw [this]
theorem both_ok (a b : Bool) (la lb : List Int) (hla : la.length ≤ 1000000) (hlb : lb.length ≤ 1000000) : Fn Tryd.prog 38 [fzN a la, fzN b lb] [] (fzB (sndB a la && sndB b lb)) [] := by
  refine num_sound_fn _ _ _ _ ?_
  unfold num_sound_H
  refine ⟨_, sound_ok a la hla, fun h => ⟨_, sound_ok b lb hlb, ?_⟩, fun h => ?_⟩
  · rw [h]; exact ⟨rfl, rfl⟩
  · rw [h]; exact ⟨rfl, rfl⟩
def op2S (f : Int → Int → Int) (a : Bool) (la : List Int) (b : Bool) (lb : List Int) : Bool := if (sndB a la && sndB b lb) = true then outS (f (sv a la) (sv b lb)) else false
def op2L (f : Int → Int → Int) (a : Bool) (la : List Int) (b : Bool) (lb : List Int) : List Int := if (sndB a la && sndB b lb) = true then outL (f (sv a la) (sv b lb)) else []
def op2E (f : Int → Int → Int) (a : Bool) (la : List Int) (b : Bool) (lb : List Int) : Int := if (sndB a la && sndB b lb) = true then outE (f (sv a la) (sv b lb)) else 2
abbrev op2T (f : Int → Int → Int) (a : Bool) (la : List Int) (b : Bool) (lb : List Int) : TV := tupNE (op2S f a la b lb) (op2L f a la b lb) (op2E f a la b lb)
theorem op2T_snd {f : Int → Int → Int} {a : Bool} {la : List Int} {b : Bool} {lb : List Int} (h : (sndB a la && sndB b lb) = true) : op2T f a la b lb = outT (f (sv a la) (sv b lb)) := by
  unfold op2T op2S op2L op2E; rw [if_pos h, if_pos h, if_pos h]
theorem op2T_bad {f : Int → Int → Int} {a : Bool} {la : List Int} {b : Bool} {lb : List Int} (h : (sndB a la && sndB b lb) = false) : op2T f a la b lb = tupNE false [] 2 := by
  unfold op2T op2S op2L op2E; simp [h]
theorem sv_true (l : List Int) : sv true l = - val 1000000000 l := rfl
theorem sv_false (l : List Int) : sv false l = val 1000000000 l := rfl
theorem add_ok (a b : Bool) (la lb : List Int) (ha : U32 la) (hb : U32 lb) (hla : la.length ≤ 100000) (hlb : lb.length ≤ 100000) :
    Fn Tryd.prog 18 [fzN a la, fzN b lb] [] (op2T (· + ·) a la b lb) [] := by
  refine num_Add_fn _ _ _ _ ?_
  unfold num_Add_H
  refine ⟨_, both_ok a b la lb (by omega) (by omega), ?_⟩
  rw [not_t, not_f]
  refine ⟨fun h => ?_, fun h' => ?_⟩
  · rw [op2T_bad h]; exact ⟨rfl, rfl⟩
  · rw [op2T_snd h']
    rw [Bool.and_eq_true, sndB_iff ha, sndB_iff hb] at h'
    obtain ⟨sa, sb⟩ := h'
    refine ⟨fun e => ?_, fun e => ?_⟩
    · have e' : a = b := by simpa using e
      subst e'
      obtain ⟨r, r1, r2, r3, r4⟩ := plus_ok la lb (by omega) (by omega) sa.lim sb.lim
      refine ⟨_, r4, _, _, _, of_ok a r (by omega) r2, ?_⟩
      have : sv a r = sv a la + sv a lb := by cases a <;> simp only [sv_true, sv_false, r3] <;> omega
      rw [this]; exact ⟨rfl, rfl⟩
    · have e' : a ≠ b := by simpa using e
      refine ⟨_, size_ok la lb (by omega) (by omega) sa.lim sb.lim sa.norm sb.norm, ?_⟩
      simp only [dec_t, dec_f, cmpV_ge]
      refine ⟨fun hle => ?_, fun hgt => ?_⟩
      · obtain ⟨r, r1, r2, r3, r4⟩ := minus_ok la lb (by omega) sa.lim sb.lim sb.norm hle
        refine ⟨_, r4, _, _, _, of_ok a r (by omega) r2, ?_⟩
        have : sv a r = sv a la + sv b lb := by cases a <;> cases b <;> simp only [sv_true, sv_false, r3] <;> first | omega | exact absurd rfl e'
        rw [this]; exact ⟨rfl, trivial⟩
      · obtain ⟨r, r1, r2, r3, r4⟩ := minus_ok lb la (by omega) sb.lim sa.lim sa.norm (by omega)
        refine ⟨_, r4, _, _, _, of_ok b r (by omega) r2, ?_⟩
        have : sv b r = sv a la + sv b lb := by cases a <;> cases b <;> simp only [sv_true, sv_false, r3] <;> first | omega | exact absurd rfl e'
        rw [this]; exact ⟨rfl, trivial⟩
end Go.Proofs.YtflmioakfboanaaDoor.Ev
end
section
set_option linter.unusedVariables false
set_option linter.unusedSimpArgs false
namespace Go.Proofs.YtflmioakfboanaaDoor.Ev
open Go
theorem ring_mul (o p O X Y c q v : Int) : o + p * ((O + X * Y + c - 1000000000 * q) - O) + p * 1000000000 * (q + X * v) = o + p * (c + X * (Y + 1000000000 * v)) := by grind
theorem ring_snoc (v b p x : Int) : v * b + p * (x * b) = (v + p * x) * b := by grind
theorem mul_inner (na nb : Bool) (la lb : List Int) (hla : la.length ≤ 64) (hlb : lb.length ≤ 64) (hLa : Lim 1000000000 la) (hLb : Lim 1000000000 lb) (i : Nat) (hi : i < la.length) (X : Int) (hX0 : 0 ≤ X) (hX1 : X < 1000000000) (R : TV → List Ob → Prop) :
    ∀ (d j : Nat) (out : List Int) (carry : Int), j + d = lb.length → out.length = la.length + lb.length → Lim 1000000000 out → 0 ≤ carry → carry < 1000000000 →
    ∃ out', out'.length = la.length + lb.length ∧ Lim 1000000000 out' ∧ (∀ q, i + lb.length < q → rd out' q = rd out q) ∧
      (rd out (i + lb.length) = 0 → val 1000000000 out' = val 1000000000 out + 1000000000 ^ (i + j) * (carry + X * val 1000000000 (lb.drop j))) ∧
      (num_Mul_L0 R na (ints .u32 la) nb (ints .u32 lb) ((i + 1 : Nat) : Int) (ints .u32 out') → num_Mul_L1 R na (ints .u32 la) nb (ints .u32 lb) i X carry j (ints .u32 out))
  | 0, j, out, carry, hj, hlen, hL, hc0, hc1 => by
    refine ⟨out.set (i + lb.length) carry, by simp [hlen], hL.set _ _ hc0 hc1, fun q hq => rd_set_ne (by omega) _, fun h0 => ?_, fun hr => num_Mul_l1 ?_⟩
    · rw [val_set _ _ _ (by omega), h0, show i + j = i + lb.length from by omega, List.drop_of_length_le (by omega)]
      simp [val]
    · have e1 : IntKind.wrap .i64 ((i : Int) + (lb.length : Int)) = ((i + lb.length : Nat) : Int) := by rw [w64 (by omega) (by omega)]; omega
      have e2 : IntKind.wrap .i64 ((i : Int) + 1) = ((i + 1 : Nat) : Int) := w64 (by omega) (by omega)
      have e3 : IntKind.wrap .u32 carry = carry := wu32 (by omega) (by omega)
      unfold num_Mul_R1
      simp only [ints_len, ints_app, ints_snoc, ints_take, ints_drop, ints_set, ints_rep, ints_one, ex_rd, dec_t, dec_f, beq_t, beq_f, bne_t, bne_f, not_t, not_f, List.length_set, List.length_append, List.length_cons, List.length_nil, List.length_take, List.length_drop, List.length_replicate, Int.toNat_natCast, List.nil_append, Bool.not_true, Bool.not_false, Wk_nil, Wk_cons, wk1_same, wk1_f, and_true, true_and, Bool.false_eq_true, Bool.true_eq_false, false_implies, forall_const, e1, e2, e3]
      repeat' (first | (with_reducible refine And.intro ?_ ?_) | (with_reducible intro _)); all_goals (try rfl)
      all_goals first | omega | exact hr
  | d + 1, j, out, carry, hj, hlen, hL, hc0, hc1 => by
    have ho := hL.rd (by omega) (i + j)
    have hy := hLb.rd (by omega) j
    generalize hO : rd out (i + j) = O at ho
    generalize hY : rd lb j = Y at hy
    have hxy0 : 0 ≤ X * Y := Int.mul_nonneg hX0 hy.1
    have hxy1 : X * Y ≤ 999999999 * 999999999 := Int.mul_le_mul (by omega) (by omega) hy.1 (by omega)
    generalize hM : X * Y = M at hxy0 hxy1
    have hT0 : 0 ≤ O + M + carry := by omega
    obtain ⟨T, hTdef⟩ : ∃ T, T = O + M + carry := ⟨_, rfl⟩
    have hT : 1000000000 * (T / 1000000000) + T % 1000000000 = T := Int.mul_ediv_add_emod _ _
    obtain ⟨out', h1, h2, h3, h4, h5⟩ := mul_inner na nb la lb hla hlb hLa hLb i hi X hX0 hX1 R d (j + 1) (out.set (i + j) (T % 1000000000)) (T / 1000000000) (by omega) (by simp [hlen]) (hL.set _ _ (by omega) (by omega)) (by omega) (by omega)
    refine ⟨out', h1, h2, fun q hq => ?_, fun h0 => ?_, fun hr => num_Mul_l1 ?_⟩
    · rw [h3 q hq, rd_set_ne (by omega)]
    · rw [h4 (by rw [rd_set_ne (by omega)]; exact h0), val_set _ _ _ (by omega), hO]
      rw [val_drop 1000000000 lb j (by omega), hY]
      have e2 : (1000000000 : Int) ^ (i + (j + 1)) = 1000000000 ^ (i + j) * 1000000000 := by rw [show i + (j + 1) = i + j + 1 from by omega, Int.pow_succ]
      rw [e2]
      generalize (1000000000 : Int) ^ (i + j) = p
      generalize val 1000000000 (lb.drop (j + 1)) = v
      generalize T / 1000000000 = q at hT
      generalize T % 1000000000 = m at hT
      have hT2 : m = O + X * Y + carry - 1000000000 * q := by rw [hM]; omega
      rw [hT2]
      exact ring_mul _ _ _ _ _ _ _ _
    · have e1 : IntKind.wrap .i64 ((i : Int) + (j : Int)) = ((i + j : Nat) : Int) := by rw [w64 (by omega) (by omega)]; omega
      have e2 : IntKind.wrap .i64 ((j : Int) + 1) = ((j + 1 : Nat) : Int) := w64 (by omega) (by omega)
      have u1 : IntKind.wrap .u64 O = O := wu64 (by omega) (by omega)
      have u2 : IntKind.wrap .u64 X = X := wu64 (by omega) (by omega)
      have u3 : IntKind.wrap .u64 Y = Y := wu64 (by omega) (by omega)
      have u4 : IntKind.wrap .u64 M = M := wu64 (by omega) (by omega)
      have u5 : IntKind.wrap .u64 (O + M) = O + M := wu64 (by omega) (by omega)
      have u6 : IntKind.wrap .u64 (O + M + carry) = T := by rw [wu64 (by omega) (by omega), hTdef]
      have u7 : Int.tmod T 1000000000 = T % 1000000000 := Int.tmod_eq_emod_of_nonneg (by omega)
      have u8 : Int.tdiv T 1000000000 = T / 1000000000 := Int.tdiv_eq_ediv_of_nonneg (by omega)
      have u9 : IntKind.wrap .u64 (T / 1000000000) = T / 1000000000 := wu64 (by omega) (by omega)
      have u10 : IntKind.wrap .u32 (T % 1000000000) = T % 1000000000 := wu32 (by omega) (by omega)
      have u11 : IntKind.wrap .u64 (T % 1000000000) = T % 1000000000 := wu64 (by omega) (by omega)
      unfold num_Mul_R1
      simp only [ints_len, ints_app, ints_snoc, ints_take, ints_drop, ints_set, ints_rep, ints_one, ex_rd, dec_t, dec_f, beq_t, beq_f, bne_t, bne_f, not_t, not_f, List.length_set, List.length_append, List.length_cons, List.length_nil, List.length_take, List.length_drop, List.length_replicate, Int.toNat_natCast, List.nil_append, Bool.not_true, Bool.not_false, Wk_nil, Wk_cons, wk1_same, wk1_f, and_true, true_and, Bool.false_eq_true, Bool.true_eq_false, false_implies, forall_const, hO, hY, hM, e1, e2, u1, u2, u3, u4, u5, u6, u7, u8, u9, u10, u11]
      repeat' (first | (with_reducible refine And.intro ?_ ?_) | (with_reducible intro _)); all_goals (try rfl)
      all_goals first | omega | exact h5 hr
theorem mul_outer (na nb : Bool) (la lb : List Int) (hla : la.length ≤ 64) (hlb : lb.length ≤ 64) (hLa : Lim 1000000000 la) (hLb : Lim 1000000000 lb) (R : TV → List Ob → Prop) (hR : R (outT (sv na la * sv nb lb)) []) :
    ∀ (d i : Nat) (out : List Int), i + d = la.length → out.length = la.length + lb.length → Lim 1000000000 out → (∀ q, i + lb.length ≤ q → rd out q = 0) → val 1000000000 out = val 1000000000 (la.take i) * val 1000000000 lb →
    num_Mul_L0 R na (ints .u32 la) nb (ints .u32 lb) i (ints .u32 out)
  | 0, i, out, hi, hlen, hL, hz, hv => by
    refine num_Mul_l0 ?_
    unfold num_Mul_R0
    simp only [ints_len, ints_app, ints_snoc, ints_take, ints_drop, ints_set, ints_rep, ints_one, ex_rd, dec_t, dec_f, beq_t, beq_f, bne_t, bne_f, not_t, not_f, List.length_set, List.length_append, List.length_cons, List.length_nil, List.length_take, List.length_drop, List.length_replicate, Int.toNat_natCast, List.nil_append, Bool.not_true, Bool.not_false, Wk_nil, Wk_cons, wk1_same, wk1_f, and_true, true_and, Bool.false_eq_true, Bool.true_eq_false, false_implies, forall_const]
    refine ⟨fun h => by omega, fun _ => ⟨_, _, _, of_ok _ out (by omega) hL, ?_⟩⟩
    rw [List.take_of_length_le (by omega)] at hv
    have : sv (!na == nb) out = sv na la * sv nb lb := by
      cases na <;> cases nb <;> simp [sv, hv, Int.neg_mul, Int.mul_neg]
    rw [this]
    exact hR
  | d + 1, i, out, hi, hlen, hL, hz, hv => by
    have hx := hLa.rd (by omega) i
    obtain ⟨out', h1, h2, h3, h4, h5⟩ := mul_inner na nb la lb hla hlb hLa hLb i (by omega) (rd la i) hx.1 hx.2 R lb.length 0 out 0 (by omega) hlen hL (by omega) (by omega)
    have h0 := hz (i + lb.length) (Nat.le_refl _)
    have g := mul_outer na nb la lb hla hlb hLa hLb R hR d (i + 1) out' (by omega) h1 h2 (fun q hq => by rw [h3 q (by omega)]; exact hz q (by omega)) (by
      rw [h4 h0, hv, List.take_succ_eq_append_getElem (by omega), val_snoc, ← rd_at la i (by omega), List.length_take, Nat.min_eq_left (by omega)]
      simp only [Nat.add_zero, List.drop_zero, Int.zero_add]
      exact ring_snoc _ _ _ _)
    refine num_Mul_l0 ?_
    unfold num_Mul_R0
    simp only [ints_len, ints_app, ints_snoc, ints_take, ints_drop, ints_set, ints_rep, ints_one, ex_rd, dec_t, dec_f, beq_t, beq_f, bne_t, bne_f, not_t, not_f, List.length_set, List.length_append, List.length_cons, List.length_nil, List.length_take, List.length_drop, List.length_replicate, Int.toNat_natCast, List.nil_append, Bool.not_true, Bool.not_false, Wk_nil, Wk_cons, wk1_same, wk1_f, and_true, true_and, Bool.false_eq_true, Bool.true_eq_false, false_implies, forall_const]
    exact ⟨fun _ => ⟨by omega, by omega, h5 g⟩, fun h => by omega⟩
theorem mul_ok (a b : Bool) (la lb : List Int) (ha : U32 la) (hb : U32 lb) (hla : la.length ≤ 100000) (hlb : lb.length ≤ 100000) :
    Fn Tryd.prog 14 [fzN a la, fzN b lb] [] (op2T (· * ·) a la b lb) [] := by
  refine num_Mul_fn _ _ _ _ ?_
  unfold num_Mul_H
  refine ⟨_, both_ok a b la lb (by omega) (by omega), ?_⟩
  rw [not_t, not_f]
  refine ⟨fun h => ?_, fun h' => ?_⟩
  · rw [op2T_bad h]; exact ⟨rfl, rfl⟩
  · rw [op2T_snd h']
    rw [Bool.and_eq_true, sndB_iff ha, sndB_iff hb] at h'
    obtain ⟨sa, sb⟩ := h'
    have l1 := sa.len
    have l2 := sb.len
    have e1 : IntKind.wrap .i64 ((la.length : Int) + (lb.length : Int)) = ((la.length + lb.length : Nat) : Int) := by rw [w64 (by omega) (by omega)]; omega
    simp only [ints_len, ints_app, ints_snoc, ints_take, ints_drop, ints_set, ints_rep, ints_one, ex_rd, dec_t, dec_f, beq_t, beq_f, bne_t, bne_f, not_t, not_f, List.length_set, List.length_append, List.length_cons, List.length_nil, List.length_take, List.length_drop, List.length_replicate, Int.toNat_natCast, List.nil_append, Bool.not_true, Bool.not_false, Wk_nil, Wk_cons, wk1_same, wk1_f, and_true, true_and, Bool.false_eq_true, Bool.true_eq_false, false_implies, forall_const, e1]
    refine ⟨⟨by omega, by omega, by omega⟩, mul_outer a b la lb l1 l2 sa.lim sb.lim _ ⟨rfl, rfl⟩ la.length 0 _ (by omega) (by simp) (Lim.replicate (by omega) _) (fun q _ => ?_) ?_⟩
    · unfold rd
      simp only [List.getD_eq_getElem?_getD, List.getElem?_replicate]
      split <;> rfl
    · rw [val_replicate]; simp [val]
theorem ofInt_loop (n : Int) (R : TV → List Ob → Prop) : ∀ (u : Nat) (o : List Int), u < 18446744073709551616 → o.length + (digs 1000000000 u).length ≤ 200 → R (fzN (decide (n < 0)) (o ++ digs 1000000000 u)) [] → num_Of_L0 R n u (ints .u32 o) := by
  intro u
  induction u using Nat.strongRecOn with
  | _ u ih =>
    intro o hu hl hR
    refine num_Of_l0 ?_
    unfold num_Of_R0
    rcases Nat.eq_zero_or_pos u with rfl | hp
    · rw [digs_zero, List.append_nil] at hR
      simp only [ints_len, ints_app, ints_snoc, ints_take, ints_drop, ints_set, ints_rep, ints_one, ex_rd, dec_t, dec_f, beq_t, beq_f, bne_t, bne_f, not_t, not_f, List.length_set, List.length_append, List.length_cons, List.length_nil, List.length_take, List.length_drop, List.length_replicate, Int.toNat_natCast, List.nil_append, Bool.not_true, Bool.not_false, Wk_nil, Wk_cons, wk1_same, wk1_f, and_true, true_and, Bool.false_eq_true, Bool.true_eq_false, false_implies, forall_const]
      exact ⟨fun h => by omega, fun _ => hR⟩
    · rw [digs_pos (by omega) hp] at hR hl
      have e1 : Int.tmod (u : Int) 1000000000 = ((u % 1000000000 : Nat) : Int) := by rw [Int.tmod_eq_emod_of_nonneg (by omega)]; omega
      have e2 : Int.tdiv (u : Int) 1000000000 = ((u / 1000000000 : Nat) : Int) := by rw [Int.tdiv_eq_ediv_of_nonneg (by omega)]; omega
      have e3 : IntKind.wrap .u32 ((u % 1000000000 : Nat) : Int) = ((u % 1000000000 : Nat) : Int) := wu32 (by omega) (by omega)
      have e4 : IntKind.wrap .u64 ((u / 1000000000 : Nat) : Int) = ((u / 1000000000 : Nat) : Int) := wu64 (by omega) (by omega)
      simp only [ints_len, ints_app, ints_snoc, ints_take, ints_drop, ints_set, ints_rep, ints_one, ex_rd, dec_t, dec_f, beq_t, beq_f, bne_t, bne_f, not_t, not_f, List.length_set, List.length_append, List.length_cons, List.length_nil, List.length_take, List.length_drop, List.length_replicate, Int.toNat_natCast, List.nil_append, Bool.not_true, Bool.not_false, Wk_nil, Wk_cons, wk1_same, wk1_f, and_true, true_and, Bool.false_eq_true, Bool.true_eq_false, false_implies, forall_const, e1, e2, e3, e4]
      simp only [List.length_cons] at hl
      refine ⟨fun _ => ⟨by omega, by omega, by omega, ih (u / 1000000000) (Nat.div_lt_self hp (by omega)) (o ++ [((u % 1000000000 : Nat) : Int)]) (by omega) (by simp; omega) (by simpa using hR)⟩, fun h => by omega⟩
theorem ofInt_ok (n : Int) (h0 : -9223372036854775808 ≤ n) (h1 : n ≤ 9223372036854775807) : Fn Tryd.prog 35 [fzI .i64 n] [] (fzN (bigN n) (bigL n)) [] := by
  refine num_Of_fn _ ?_
  have hlen : (digs 1000000000 n.natAbs).length ≤ 200 := by
    have h : (digs 1000000000 n.natAbs).length ≤ 3 := (digs_len (by omega) _ _).2 (by omega)
    omega
  unfold num_Of_H
  rw [dec_t, dec_f]
  refine ⟨fun h => ?_, fun h => ?_⟩
  · have e : IntKind.wrap .u64 (0 - IntKind.wrap .u64 n) = (n.natAbs : Int) := by
      simp [IntKind.wrap, IntKind.bits, IntKind.signed]; omega
    rw [e]
    exact ofInt_loop n _ n.natAbs [] (by omega) (by simpa using hlen) ⟨by simp [bigN, bigL], rfl⟩
  · have e : IntKind.wrap .u64 n = (n.natAbs : Int) := by
      simp [IntKind.wrap, IntKind.bits, IntKind.signed]; omega
    rw [e]
    exact ofInt_loop n _ n.natAbs [] (by omega) (by simpa using hlen) ⟨by simp [bigN, bigL], rfl⟩
theorem ring_times (vx p c t A n q : Int) (h : vx + p * c = t * n) : vx + p * (A * n + c - 1000000000 * q) + p * 1000000000 * q = (t + p * A) * n := by grind
theorem times_loop (a : List Int) (n : Int) (ha : a.length ≤ 999999) (hLa : Lim 1000000000 a) (hn0 : 0 ≤ n) (hn1 : n < 1000000000) (R : TV → List Ob → Prop) (hR : R (fzS .u32 (digs 1000000000 (val 1000000000 a * n).toNat)) []) :
    ∀ (d i : Nat) (x : List Int) (c : Int), i + d = a.length → x.length = i → Lim 1000000000 x → 0 ≤ c → c < 1000000000 → val 1000000000 x + 1000000000 ^ i * c = val 1000000000 (a.take i) * n →
    num_times_L0 R (ints .u32 a) n c i (ints .u32 x)
  | 0, i, x, c, hi, hx, hL, h0, h1, hv => by
    refine num_times_l0 ?_
    have e1 : IntKind.wrap .u32 c = c := wu32 (by omega) (by omega)
    unfold num_times_R0
    simp only [ints_len, ints_app, ints_snoc, ints_take, ints_drop, ints_set, ints_rep, ints_one, ex_rd, dec_t, dec_f, beq_t, beq_f, bne_t, bne_f, not_t, not_f, List.length_set, List.length_append, List.length_cons, List.length_nil, List.length_take, List.length_drop, List.length_replicate, Int.toNat_natCast, List.nil_append, Bool.not_true, Bool.not_false, Wk_nil, Wk_cons, wk1_same, wk1_f, and_true, true_and, Bool.false_eq_true, Bool.true_eq_false, false_implies, forall_const, e1]
    refine ⟨fun h => by omega, fun _ => ⟨by omega, _, cut_ok (x ++ [c]) (by simp; omega) (hL.snoc h0 h1), ?_⟩⟩
    rw [val_snoc, hx, hv, List.take_of_length_le (by omega)]
    exact hR
  | d + 1, i, x, c, hi, hx, hL, h0, h1, hv => by
    have ga := hLa.rd (by omega) i
    have va := val_take_succ 1000000000 a i
    generalize hA : rd a i = A at ga va
    have hp0 : 0 ≤ A * n := Int.mul_nonneg ga.1 hn0
    have hp1 : A * n ≤ 999999999 * 999999999 := Int.mul_le_mul (by omega) (by omega) hn0 (by omega)
    obtain ⟨T, hT⟩ : ∃ T, T = A * n + c := ⟨_, rfl⟩
    have hd : 1000000000 * (T / 1000000000) + T % 1000000000 = T := Int.mul_ediv_add_emod _ _
    have g := times_loop a n ha hLa hn0 hn1 R hR d (i + 1) (x ++ [T % 1000000000]) (T / 1000000000) (by omega) (by simp [hx]) (hL.snoc (by omega) (by omega)) (by omega) (by omega) (by
      rw [val_snoc, hx, va, Int.pow_succ]
      generalize T / 1000000000 = q at hd
      generalize T % 1000000000 = m at hd
      have hm : m = A * n + c - 1000000000 * q := by omega
      rw [hm]
      exact ring_times _ _ _ _ _ _ _ hv)
    refine num_times_l0 ?_
    have u1 : IntKind.wrap .u64 A = A := wu64 (by omega) (by omega)
    have u2 : IntKind.wrap .u64 n = n := wu64 (by omega) (by omega)
    have u3 : IntKind.wrap .u64 (A * n) = A * n := wu64 (by omega) (by omega)
    have u4 : IntKind.wrap .u64 (c + A * n) = T := by rw [wu64 (by omega) (by omega), hT]; omega
    have u5 : Int.tmod T 1000000000 = T % 1000000000 := Int.tmod_eq_emod_of_nonneg (by omega)
    have u6 : Int.tdiv T 1000000000 = T / 1000000000 := Int.tdiv_eq_ediv_of_nonneg (by omega)
    have u7 : IntKind.wrap .u64 (T / 1000000000) = T / 1000000000 := wu64 (by omega) (by omega)
    have u8 : IntKind.wrap .u32 (T % 1000000000) = T % 1000000000 := wu32 (by omega) (by omega)
    have u9 : IntKind.wrap .i64 ((i : Int) + 1) = ((i + 1 : Nat) : Int) := w64 (by omega) (by omega)
    unfold num_times_R0
    simp only [ints_len, ints_app, ints_snoc, ints_take, ints_drop, ints_set, ints_rep, ints_one, ex_rd, dec_t, dec_f, beq_t, beq_f, bne_t, bne_f, not_t, not_f, List.length_set, List.length_append, List.length_cons, List.length_nil, List.length_take, List.length_drop, List.length_replicate, Int.toNat_natCast, List.nil_append, Bool.not_true, Bool.not_false, Wk_nil, Wk_cons, wk1_same, wk1_f, and_true, true_and, Bool.false_eq_true, Bool.true_eq_false, false_implies, forall_const, hA, u1, u2, u3, u4, u5, u6, u7, u8, u9]
    exact ⟨fun _ => ⟨by omega, by omega, by omega, by omega, by omega, g⟩, fun h => by omega⟩
theorem times_ok (a : List Int) (n : Int) (ha : a.length ≤ 900000) (hLa : Lim 1000000000 a) (hn0 : 0 ≤ n) (hn1 : n < 1000000000) :
    Fn Tryd.prog 51 [fzS .u32 a, fzI .u32 n] [] (fzS .u32 (digs 1000000000 (val 1000000000 a * n).toNat)) [] := by
  refine num_times_fn _ _ ?_
  unfold num_times_H
  rw [ints_len, w64 (n := (a.length : Int) + 1) (by omega) (by omega)]
  exact ⟨⟨by omega, by omega, by omega⟩, times_loop a n (by omega) hLa hn0 hn1 _ ⟨rfl, rfl⟩ a.length 0 [] 0 (by omega) rfl (Lim.nil _) (by omega) (by omega) (by simp [val])⟩
theorem halve_loop (r b : List Int) (hr : r.length ≤ 100000) (hb : b.length ≤ 100000) (hLr : Lim 1000000000 r) (hLb : Lim 1000000000 b) (nr : Norm r) (hb0 : 0 < val 1000000000 b)
    (R : TV → List Ob → Prop) (hR : R (fzI .u32 (val 1000000000 r / val 1000000000 b)) []) :
    ∀ (d : Nat) (low high : Int), high - low ≤ d → 0 ≤ low → low < high → high ≤ 1000000000 → val 1000000000 b * low ≤ val 1000000000 r → val 1000000000 r < val 1000000000 b * high → num_halve_L0 R (ints .u32 r) (ints .u32 b) low high
  | 0, low, high, hd, h0, h1, h2, h3, h4 => by omega
  | d + 1, low, high, hd, h0, h1, h2, h3, h4 => by
    refine num_halve_l0 ?_
    have e1 : IntKind.wrap .u32 (high - low) = high - low := wu32 (by omega) (by omega)
    have e2 : Int.tdiv (high - low) 2 = (high - low) / 2 := Int.tdiv_eq_ediv_of_nonneg (by omega)
    have e3 : IntKind.wrap .u32 ((high - low) / 2) = (high - low) / 2 := wu32 (by omega) (by omega)
    have e4 : IntKind.wrap .u32 (low + (high - low) / 2) = low + (high - low) / 2 := wu32 (by omega) (by omega)
    unfold num_halve_R0
    simp only [ints_len, ints_app, ints_snoc, ints_take, ints_drop, ints_set, ints_rep, ints_one, ex_rd, dec_t, dec_f, beq_t, beq_f, bne_t, bne_f, not_t, not_f, List.length_set, List.length_append, List.length_cons, List.length_nil, List.length_take, List.length_drop, List.length_replicate, Int.toNat_natCast, List.nil_append, Bool.not_true, Bool.not_false, Wk_nil, Wk_cons, wk1_same, wk1_f, and_true, true_and, Bool.false_eq_true, Bool.true_eq_false, false_implies, forall_const, e1, e2, e3, e4]
    refine ⟨fun hlt => ⟨by omega, _, times_ok b _ (by omega) hLb (by omega) (by omega), ?_⟩, fun hge => ?_⟩
    · have hm0 : 0 ≤ val 1000000000 b * (low + (high - low) / 2) := Int.mul_nonneg (by omega) (by omega)
      have hlen : (digs 1000000000 (val 1000000000 b * (low + (high - low) / 2)).toNat).length ≤ 1000000 := by
        have hv := val_lt (B := 1000000000) (by omega) hLb
        have : (digs 1000000000 (val 1000000000 b * (low + (high - low) / 2)).toNat).length ≤ b.length + 1 := by
          rw [digs_len (by omega)]
          have h5 : val 1000000000 b * (low + (high - low) / 2) ≤ val 1000000000 b * 1000000000 := Int.mul_le_mul_of_nonneg_left (by omega) (by omega)
          have h6 : ((1000000000 ^ (b.length + 1) : Nat) : Int) = 1000000000 ^ b.length * 1000000000 := by rw [Int.natCast_pow, Int.pow_succ]; rfl
          omega
        omega
      refine ⟨_, size_ok _ r hlen (by omega) (digsB_lim _) hLr (digsB_norm _) nr, ?_⟩
      rw [cmpV_le, digsB_val]
      refine ⟨fun hle => ?_, fun hgt => ?_⟩
      · exact halve_loop r b hr hb hLr hLb nr hb0 R hR d _ _ (by omega) (by omega) (by omega) (by omega) (by omega) h4
      · exact halve_loop r b hr hb hLr hLb nr hb0 R hR d _ _ (by omega) (by omega) (by omega) (by omega) h3 (by omega)
    · have : high = low + 1 := by omega
      subst this
      have : val 1000000000 r / val 1000000000 b = low := by
        rw [Int.mul_add, Int.mul_one] at h4
        have e : val 1000000000 r = (val 1000000000 r - val 1000000000 b * low) + val 1000000000 b * low := by omega
        rw [e, Int.add_mul_ediv_left _ _ (by omega), Int.ediv_eq_zero_of_lt (by omega) (by omega)]
        omega
      rw [this] at hR
      exact hR
theorem halve_ok (r b : List Int) (hr : r.length ≤ 100000) (hb : b.length ≤ 100000) (hLr : Lim 1000000000 r) (hLb : Lim 1000000000 b) (nr : Norm r) (hb0 : 0 < val 1000000000 b) (hlt : val 1000000000 r < val 1000000000 b * 1000000000) :
    Fn Tryd.prog 50 [fzS .u32 r, fzS .u32 b] [] (fzI .u32 (val 1000000000 r / val 1000000000 b)) [] := by
  refine num_halve_fn _ _ ?_
  unfold num_halve_H
  exact halve_loop r b hr hb hLr hLb nr hb0 _ ⟨rfl, rfl⟩ 1000000000 0 1000000000 (by omega) (by omega) (by omega) (by omega) (by have := val_nonneg (B := 1000000000) (by omega) hLr; omega) hlt
end Go.Proofs.YtflmioakfboanaaDoor.Ev
end
section
set_option linter.unusedVariables false
set_option linter.unusedSimpArgs false
namespace Go.Proofs.YtflmioakfboanaaDoor.Ev
open Go Go.Shelf Go.RowKit Go.Lib Go.Proofs
theorem infoU32 : (Tryd.prog.info? 48).map (fun i => (i.zero, i.size, i.bytes)) = some (some (.int .u32 0), 1, 4) := by kernel_rfl
theorem mixedOK : Tryd.prog.follows .mixedOrders = true := by kernel_rfl
theorem sizeU32 (w : World) : (Go.sizeOf 48).run Tryd.prog w = .ok 1 w := by
  obtain ⟨i0, hi0, h0, h1, h2⟩ := info_parts infoU32
  have e : Go.sizeOf 48 = (do pure (← typeInfo 48).size) := rfl
  rw [e]
  simp [typeInfo, hi0, h1]
set_option maxHeartbeats 4000000 in
set_option maxRecDepth 100000 in
theorem Insert_shift (b off n c i vb voff m vc : Nat) (cs vs : List Value) (w : World) (hi : i < n) (hm : 0 < m) (hroom : n + m ≤ c) (hc63 : n + m ≤ 9223372036854775807) (hvb : vb ≠ b)
    (hcl : cs.length = n) (hvl : vs.length = m)
    (hcs : ∀ j v, cs[j]? = some v → w.cell? ⟨b, off + j, none⟩ = some v) (hsp : ∀ j, j < n + m → (w.cell? ⟨b, off + j, none⟩).isSome = true) (hfz : ∀ j, j < n + m → w.frozen? ⟨b, off + j, none⟩ = false)
    (hvs : ∀ j v, vs[j]? = some v → w.cell? ⟨vb, voff + j, none⟩ = some v) (h1c : ∀ v ∈ cs, v.oneCell' = true) (h1v : ∀ v ∈ vs, v.oneCell' = true)
    (tA tB : TypeId) (kA kB : Nat) (hsa : w.shape? vb = some (tA, kA)) (hsb : w.shape? b = some (tB, kB)) (hkB : kB ≠ 0) (hfa : w.frozen? ⟨vb, voff, none⟩ = false) (hfe : w.frozen? ⟨vb, kA, none⟩ = false) :
    Calls Tryd.prog (49) #[.slice (some ⟨b, off, none⟩) n c, .int .i64 i, .slice (some ⟨vb, voff, none⟩) m vc] w fun e w' =>
      e = .returned (.slice (some ⟨b, off, none⟩) (n + m) c) ∧ w' = (w.drew.setCells b (off + (i + m)) (cs.drop i)).setCells b (off + i) vs := by
  have hz1 : ¬ ((m : Int) = 0) := by omega
  have hz2 : ¬ ((i : Int) = (n : Int)) := by omega
  have hsz : (Tryd.prog.info? 48).map (·.size) = some 1 := by
    obtain ⟨i0, hi0, h0, h1, h2⟩ := info_parts infoU32
    rw [hi0]; simp [h1]
  have hov : ∀ lb cb, (callFunc (70) #[.slice (some ⟨vb, voff, none⟩) m vc, .slice (some ⟨b, off + (i + m), none⟩) lb cb]).run Tryd.prog w = .ok (.value (.bool false)) w := fun lb cb => by
    rw [run_callFunc_extern Tryd.func70 (by kernel_rfl) (by kernel_rfl) (by kernel_rfl) (e := Extern.SlicesOverlaps.overlaps #[22, 22] #[4]) (by kernel_rfl),
      Lib.run_overlaps_apart w 22 4 48 Tryd.underlying22 1 sizeU32 ⟨vb, voff, none⟩ ⟨b, off + (i + m), none⟩ m vc lb cb hvb tA tB kA kB hsa hsb hkB hfa hfe]
    rfl
  have hdl : (cs.drop i).length = n - i := by rw [List.length_drop, hcl]
  have mixed := mixedOK
  have hw1 : IntKind.i64.wrap ((i : Int) + (m : Int)) = (i : Int) + (m : Int) := by rw [IntKind.wrap_i64]; omega
  have hb1 : (0 : Int) ≤ (i : Int) + (m : Int) := by omega
  have hin : i ≤ n := by omega
  have htn : ((i : Int) + (m : Int)).toNat = i + m := by omega
  have hb2 : ¬ (c = i + m) := by omega
  have hb3 : (i : Int) ≤ (n : Int) + (m : Int) := by omega
  have hb4 : ¬ (c = i) := by omega
  have hcp1 : ∀ ty dc sc, (Builtin.copy_ #[22, 22] ty #[.slice (some ⟨b, off + (i + m), none⟩) (n + m - (i + m)) dc, .slice (some ⟨b, off + i, none⟩) (n + m - i) sc]).run Tryd.prog w.drew = .ok (goInt (cs.drop i).length) (w.drew.setCells b (off + (i + m)) (cs.drop i)) := fun ty dc sc =>
    run_copy_cells w.drew _ _ ty 48 b (off + (i + m)) (n + m - (i + m)) dc ⟨b, off + i, none⟩ (n + m - i) sc (cs.drop i) Tryd.underlying22 hsz (by rw [hdl]; simp only [Nat.min_def]; split <;> omega)
      (fun j v hj => by rw [Addr.add_lit, Nat.add_assoc]; exact hcs (i + j) v (by rwa [List.getElem?_drop] at hj))
      (fun j hj => by rw [Nat.add_assoc]; exact hsp _ (by omega)) (fun j hj => by rw [Nat.add_assoc]; exact hfz _ (by omega)) (fun v hv => h1c v (List.mem_of_mem_drop hv))
  obtain ⟨W1, hW1⟩ : ∃ W1, W1 = w.drew.setCells b (off + (i + m)) (cs.drop i) := ⟨_, rfl⟩
  have hsp1 : ∀ k, k < n + m → (W1.cell? ⟨b, off + k, none⟩).isSome = true := fun k hk => by
    rw [hW1]
    exact isSome_setCells b _ _ _ (fun j hj => by rw [Nat.add_assoc]; exact hsp _ (by omega)) _ (hsp k hk)
  have hcp2 : ∀ (W : World), (∀ x, W.cell? x = W1.cell? x) → (∀ x, W.frozen? x = W1.frozen? x) → ∀ ty dc, (Builtin.copy_ #[22, 22] ty #[.slice (some ⟨b, off + i, none⟩) (n + m - i) dc, .slice (some ⟨vb, voff, none⟩) m vc]).run Tryd.prog W = .ok (goInt vs.length) (W.setCells b (off + i) vs) := fun W hWc hWf ty dc =>
    run_copy_cells W _ _ ty 48 b (off + i) (n + m - i) dc ⟨vb, voff, none⟩ m vc vs Tryd.underlying22 hsz (by rw [hvl]; simp only [Nat.min_def]; split <;> omega)
      (fun j v hj => by
        rw [Addr.add_lit, hWc, hW1, World.cell?_setCells_out b _ _ _ _ (fun h _ => absurd h hvb)]
        exact hvs j v hj)
      (fun j hj => by rw [hWc, Nat.add_assoc]; exact hsp1 _ (by omega)) (fun j hj => by rw [hWf, hW1, World.frozen?_setCells, Nat.add_assoc]; exact hfz _ (by omega)) h1v
  rw [← hW1] at hcp1
  go_enter Tryd.func49, Tryd.ntmps49
  go_wp2_with (simp only [hov])
  go_region_law_o (refine step_copy_runI rfl _ _ 22 22 rfl _ _ (by simp [Act.eval, Act.put]) (by simp [Act.eval, Act.put]) (hcp1 _ _ _) ?_)
  go_wp2_with (at_builtin; refine wpList_copy_runI _ rfl _ _ 22 22 rfl _ _ rfl rfl (hcp2 _ (fun _ => rfl) (fun _ => rfl) _ _) ?_)
  go_ret
  first | exact ⟨rfl, rfl⟩ | exact ⟨rfl, by rw [hW1]⟩
set_option maxHeartbeats 4000000 in
set_option maxRecDepth 100000 in
theorem Insert_end_room (b off n c vb voff m vc : Nat) (vs : List Value) (w : World) (hm : 0 < m) (hroom : n + m ≤ c) (hc63 : n + m ≤ 9223372036854775807)
    (hvl : vs.length = m) (hsp : ∀ j, j < m → (w.cell? ⟨b, off + n + j, none⟩).isSome = true) (hfz : ∀ j, j < m → w.frozen? ⟨b, off + n + j, none⟩ = false)
    (hvs : ∀ j v, vs[j]? = some v → w.cell? ⟨vb, voff + j, none⟩ = some v) (h1v : ∀ v ∈ vs, v.oneCell' = true) :
    Calls Tryd.prog (49) #[.slice (some ⟨b, off, none⟩) n c, .int .i64 n, .slice (some ⟨vb, voff, none⟩) m vc] w fun e w' =>
      e = .returned (.slice (some ⟨b, off, none⟩) (n + m) c) ∧ w' = w.setCells b (off + n) vs := by
  have mixed := mixedOK
  have hz1 : ¬ ((m : Int) = 0) := by omega
  have hsrc : _root_.Go.Src Tryd.prog 1 22 (.slice (some ⟨vb, voff, none⟩) m vc) m vs w := _root_.Go.Src.ofSlice w Tryd.underlying22 ⟨vb, voff, none⟩ m vc vs (by omega) (fun j u hj => by rw [Addr.add_lit]; exact hvs j u hj) h1v
  go_enter Tryd.func49, Tryd.ntmps49
  go_wp2_with (at_builtin; refine wpList_append_room1 _ rfl _ _ 22 22 rfl 48 _ _ Tryd.underlying22 infoU32 b off n c rfl _ rfl m vs hsrc hroom (by rw [hvl]; exact hsp) (by rw [hvl]; exact hfz) ?_)
  go_ret
  exact ⟨rfl, rfl⟩
set_option maxHeartbeats 4000000 in
set_option maxRecDepth 100000 in
theorem Insert_end_grow (base : Option Addr) (n c vb voff m vc : Nat) (cs vs : List Value) (w : World) (hm : 0 < m) (hnc : n ≤ c) (hroom : c < n + m) (hbig : (n + m) * 4 ≤ 140737488355328)
    (hcl : cs.length = n) (hvl : vs.length = m) (hnil : base = none → n = 0)
    (hcs : ∀ a, base = some a → ∀ j v, cs[j]? = some v → w.cell? (a.add j) = some v)
    (hvs : ∀ j v, vs[j]? = some v → w.cell? ⟨vb, voff + j, none⟩ = some v) (h1v : ∀ v ∈ vs, v.oneCell' = true) :
    Calls Tryd.prog (49) #[.slice base n c, .int .i64 n, .slice (some ⟨vb, voff, none⟩) m vc] w fun e w' =>
      e = .returned (.slice (some ⟨w.heap.size, 0, none⟩) (n + m) (grownCap w (n + m) c 48)) ∧
      w' = w.drew.alloc (.cells ((cs ++ vs).toArray ++ Builtin.zeroCells (Value.int .u32 0).cells (grownCap w (n + m) c 48 - (n + m))) 48) := by
  have mixed := mixedOK
  obtain ⟨i0, hi0, hz0, hzs, hzb⟩ := info_parts infoU32
  have hz1 : ¬ ((m : Int) = 0) := by omega
  have hsrc : _root_.Go.Src Tryd.prog i0.size 22 (.slice (some ⟨vb, voff, none⟩) m vc) m vs w := by
    rw [hzs]
    exact _root_.Go.Src.ofSlice w Tryd.underlying22 ⟨vb, voff, none⟩ m vc vs (by omega) (fun j u hj => by rw [Addr.add_lit]; exact hvs j u hj) h1v
  have hold : (Builtin.firstCells i0.size n (.slice base n c)).run Tryd.prog w.drew = .ok cs.toArray w.drew := by
    rw [hzs]
    cases base with
    | none =>
      have h0 := hnil rfl
      subst h0
      rw [List.length_eq_zero_iff.1 hcl]
      exact run_firstCells_none w.drew 1 0 0 c
    | some a => exact run_firstCells_some w.drew 1 n a n c cs (by omega) (fun j v hj => hcs a rfl j v hj)
  have hrun : ∀ ty, (Builtin.append_ #[22, 22] ty #[.slice base n c, .slice (some ⟨vb, voff, none⟩) m vc]).run Tryd.prog w = _ := fun ty =>
    run_append_grow_src w 22 22 ty 48 i0 _ Tryd.underlying22 hi0 hz0 base n c cs hold _ m vs hsrc hroom (by omega) (by rw [hzb]; exact growslice_fits hroom hbig)
  go_enter Tryd.func49, Tryd.ntmps49
  cases base with
  | none =>
    have h0 := hnil rfl
    subst h0
    go_wp2_with (at_builtin; refine Lib.wpList_append_run _ rfl _ _ _ _ rfl _ _ rfl rfl _ _ (hrun _) ?_)
    go_ret
    exact ⟨rfl, rfl⟩
  | some a =>
    obtain ⟨ab, ao, asp⟩ := a
    go_wp2_with (at_builtin; refine Lib.wpList_append_run _ rfl _ _ _ _ rfl _ _ rfl rfl _ _ (hrun _) ?_)
    all_goals (go_ret; exact ⟨rfl, rfl⟩)
set_option maxHeartbeats 4000000 in
set_option maxRecDepth 100000 in
theorem Insert_grow (b off n c i vb voff m vc : Nat) (cs vs : List Value) (w : World) (hi : i < n) (hm : 0 < m) (hnc : n ≤ c) (hroom : c < n + m) (hbig : (n + m) * 4 ≤ 140737488355328)
    (hcl : cs.length = n) (hvl : vs.length = m)
    (hcs : ∀ j v, cs[j]? = some v → w.cell? ⟨b, off + j, none⟩ = some v)
    (hvs : ∀ j v, vs[j]? = some v → w.cell? ⟨vb, voff + j, none⟩ = some v) (h1c : ∀ v ∈ cs, v.oneCell' = true) (h1v : ∀ v ∈ vs, v.oneCell' = true) :
    Calls Tryd.prog (49) #[.slice (some ⟨b, off, none⟩) n c, .int .i64 i, .slice (some ⟨vb, voff, none⟩) m vc] w fun e w' =>
      e = .returned (.slice (some ⟨w.heap.size, 0, none⟩) (n + m) (grownCap w (n + m) c 48)) ∧
      w' = (((w.alloc (.cells ((cs.take i).toArray ++ Builtin.zeroCells (Value.int .u32 0).cells (n + m - i) ++ Builtin.zeroCells (Value.int .u32 0).cells (grownCap w (n + m) c 48 - (n + m))) 48)).drew.setCells w.heap.size i vs).drew).setCells w.heap.size (i + m) (cs.drop i) := by
  have mixed := mixedOK
  obtain ⟨i0, hi0, hz0, hzs, hzb⟩ := info_parts infoU32
  have hz1 : ¬ ((m : Int) = 0) := by omega
  have hz2 : ¬ ((i : Int) = (n : Int)) := by omega
  have hz3 : (c : Int) < (n : Int) + (m : Int) := by omega
  have hsz : (Tryd.prog.info? 48).map (·.size) = some 1 := by rw [hi0]; simp [hzs]
  have hbw : b < w.heap.size := block_lt_of_cell (hcs 0 _ (List.getElem?_eq_getElem (by omega)))
  have hvw : vb < w.heap.size := block_lt_of_cell (hvs 0 _ (List.getElem?_eq_getElem (by omega)))
  have hkk : (n : Int) + (m : Int) - (i : Int) = ((n + m - i : Nat) : Int) := by omega
  have hik : i + (n + m - i) = n + m := by omega
  have hold : (Builtin.firstCells i0.size i (.slice (some ⟨b, off, none⟩) i c)).run Tryd.prog w.drew = .ok (cs.take i).toArray w.drew := by
    rw [hzs]
    exact run_firstCells_some w.drew 1 i ⟨b, off, none⟩ i c (cs.take i) (by rw [List.length_take]; omega) (fun j v hj => by
      rw [Addr.add_lit]
      rw [List.getElem?_take] at hj
      split at hj
      · exact hcs j v hj
      · cases hj)
  have hrz : ∀ ty, (Builtin.append_ #[22, 3] ty #[.slice (some ⟨b, off, none⟩) i c, .int .i64 ((n : Int) + (m : Int) - (i : Int))]).run Tryd.prog w =
      .ok (.slice (some ⟨w.heap.size, 0, none⟩) (n + m) (grownCap w (n + m) c 48)) (w.drew.alloc (.cells ((cs.take i).toArray ++ Builtin.zeroCells (Value.int .u32 0).cells (n + m - i) ++ Builtin.zeroCells (Value.int .u32 0).cells (grownCap w (n + m) c 48 - (n + m))) 48)) := fun ty => by
    have h := Lib.run_append_grow_zeros w 22 3 ty 48 i0 _ .i64 .i64 Tryd.underlying22 Tryd.underlying3 hi0 hz0 (some ⟨b, off, none⟩) i c (cs.take i) hold (n + m - i) (by omega) (by omega) (by omega) (by omega) (by rw [hzb]; omega) (by rw [hzb, hik]; exact growslice_fits hroom hbig)
    rw [hik] at h
    rw [hkk]
    exact h
  obtain ⟨G, hG⟩ : ∃ G, G = grownCap w (n + m) c 48 := ⟨_, rfl⟩
  obtain ⟨ROW, hROW⟩ : ∃ ROW : Array Value, ROW = (cs.take i).toArray ++ Builtin.zeroCells (Value.int .u32 0).cells (n + m - i) ++ Builtin.zeroCells (Value.int .u32 0).cells (G - (n + m)) := ⟨_, rfl⟩
  rw [← hG] at hrz ⊢
  rw [← hROW] at hrz ⊢
  have hRl : n + m ≤ ROW.size := by
    rw [hROW]
    simp [Builtin.zeroCells, Value.cells]
    omega
  obtain ⟨W1, hW1⟩ : ∃ W1, W1 = w.drew.alloc (.cells ROW 48) := ⟨_, rfl⟩
  rw [← hW1] at hrz
  have hN : ∀ j, j < n + m → (W1.cell? ⟨w.heap.size, j, none⟩).isSome = true := fun j hj => by
    rw [hW1, World.cell?_alloc_at (w := w.drew) ROW _ w.heap.size j rfl, Array.getElem?_eq_getElem (by omega)]; rfl
  have hNf : ∀ j, W1.frozen? ⟨w.heap.size, j, none⟩ = false := fun j => by rw [hW1]; exact World.frozen?_alloc_at (w := w.drew) ROW _ w.heap.size j rfl
  have hOb : ∀ j v, w.cell? ⟨b, j, none⟩ = some v → W1.cell? ⟨b, j, none⟩ = some v := fun j v h => by rw [hW1, World.cell?_alloc_past (w := w.drew) _ b j hbw]; exact h
  have hOv : ∀ j v, w.cell? ⟨vb, j, none⟩ = some v → W1.cell? ⟨vb, j, none⟩ = some v := fun j v h => by rw [hW1, World.cell?_alloc_past (w := w.drew) _ vb j hvw]; exact h
  have hcpA : ∀ (W : World), (∀ x, W.cell? x = W1.cell? x) → (∀ x, W.frozen? x = W1.frozen? x) → ∀ ty dc, (Builtin.copy_ #[22, 22] ty #[.slice (some ⟨w.heap.size, i, none⟩) (n + m - i) dc, .slice (some ⟨vb, voff, none⟩) m vc]).run Tryd.prog W = .ok (goInt vs.length) (W.setCells w.heap.size i vs) := fun W hWc hWf ty dc =>
    run_copy_cells W _ _ ty 48 w.heap.size i (n + m - i) dc ⟨vb, voff, none⟩ m vc vs Tryd.underlying22 hsz (by rw [hvl]; simp only [Nat.min_def]; split <;> omega)
      (fun j v hj => by rw [Addr.add_lit, hWc]; exact hOv _ v (hvs j v hj))
      (fun j hj => by rw [hWc]; exact hN _ (by omega)) (fun j hj => by rw [hWf]; exact hNf _) h1v
  have hGn : n + m ≤ G := by rw [hG]; exact grownCap_ge w _ _ _
  have hG63 : G ≤ 9223372036854775807 := by
    have := grownCap_le_maxLen w (n + m) c 48 (by unfold maxLen; omega)
    rw [← hG] at this
    unfold maxLen at this
    omega
  have hGi : ¬ (G = i) := by omega
  have hGim : ¬ (G = i + m) := by omega
  have hci : ¬ (c = i) := by omega
  have hbN : b ≠ w.heap.size := by omega
  have hdl : (cs.drop i).length = n - i := by rw [List.length_drop, hcl]
  have hcpB : ∀ (W : World), (∀ x, W.cell? x = (W1.setCells w.heap.size i vs).cell? x) → (∀ x, W.frozen? x = (W1.setCells w.heap.size i vs).frozen? x) → ∀ ty dc sc, (Builtin.copy_ #[22, 22] ty #[.slice (some ⟨w.heap.size, i + m, none⟩) (n + m - (i + m)) dc, .slice (some ⟨b, off + i, none⟩) (n - i) sc]).run Tryd.prog W = .ok (goInt (cs.drop i).length) (W.setCells w.heap.size (i + m) (cs.drop i)) := fun W hWc hWf ty dc sc =>
    run_copy_cells W _ _ ty 48 w.heap.size (i + m) (n + m - (i + m)) dc ⟨b, off + i, none⟩ (n - i) sc (cs.drop i) Tryd.underlying22 hsz (by rw [hdl]; simp only [Nat.min_def]; split <;> omega)
      (fun j v hj => by
        rw [Addr.add_lit, hWc, World.cell?_setCells_out _ _ _ _ _ (fun h _ => absurd h hbN), Nat.add_assoc]
        exact hOb _ v (hcs (i + j) v (by rwa [List.getElem?_drop] at hj)))
      (fun j hj => by rw [hWc]; exact isSome_setCells _ _ _ _ (fun t ht => hN _ (by omega)) _ (hN _ (by omega)))
      (fun j hj => by rw [hWf, World.frozen?_setCells]; exact hNf _) (fun v hv => h1c v (List.mem_of_mem_drop hv))
  subst hW1
  have hE1 : ∀ x, ((w.alloc (.cells ROW 48)).drew).cell? x = (w.drew.alloc (.cells ROW 48)).cell? x := fun x => rfl
  have hE2 : ∀ x, ((w.alloc (.cells ROW 48)).drew).frozen? x = (w.drew.alloc (.cells ROW 48)).frozen? x := fun x => rfl
  have hF1 : ∀ x, (((w.alloc (.cells ROW 48)).drew.setCells w.heap.size i vs).drew).cell? x = ((w.drew.alloc (.cells ROW 48)).setCells w.heap.size i vs).cell? x := fun x => rfl
  have hF2 : ∀ x, (((w.alloc (.cells ROW 48)).drew.setCells w.heap.size i vs).drew).frozen? x = ((w.drew.alloc (.cells ROW 48)).setCells w.heap.size i vs).frozen? x := fun x => rfl
  have hw1 : IntKind.i64.wrap ((i : Int) + (m : Int)) = (i : Int) + (m : Int) := by rw [IntKind.wrap_i64]; omega
  have hb1 : (0 : Int) ≤ (i : Int) + (m : Int) := by omega
  have hin : i ≤ n := by omega
  have htn : ((i : Int) + (m : Int)).toNat = i + m := by omega
  have hb3 : (i : Int) ≤ (n : Int) := by omega
  clear hkk hik hold hROW hG hRl
  go_enter Tryd.func49, Tryd.ntmps49
  go_wp2_with (first
    | (at_builtin; refine Lib.wpList_append_run _ rfl _ _ _ _ rfl _ _ rfl rfl _ _ (hrz _) ?_)
    | (at_builtin; refine wpList_copy_runI _ rfl _ _ 22 22 rfl _ _ rfl rfl (hcpA _ hE1 hE2 _ _) ?_)
    | (at_builtin; refine wpList_copy_runI _ rfl _ _ 22 22 rfl _ _ rfl rfl (hcpB _ (fun _ => rfl) (fun _ => rfl) _ _ _) ?_))
  go_region_law_o (refine step_copy_runI rfl _ _ 22 22 rfl (.slice (some ⟨w.heap.size, i + m, none⟩) (n + m - (i + m)) (G - (i + m))) (.slice (some ⟨b, off + i, none⟩) (n - i) (c - i)) (by simp [Act.eval, Act.put]) (by simp [Act.eval, Act.put]) (hcpB _ hF1 hF2 3 (G - (i + m)) (c - i)) ?_)
  go_wp2
  go_ret
  exact ⟨rfl, rfl⟩
end Go.Proofs.YtflmioakfboanaaDoor.Ev
end
section
set_option linter.unusedVariables false
set_option linter.unusedSimpArgs false
namespace Go.Proofs.YtflmioakfboanaaDoor.Ev
open Go Go.Shelf Go.RowKit Go.Lib Go.Proofs
theorem setCells_heap (b : Nat) : ∀ (vs : List Value) (o : Nat) (w : World) {c : Array Value} {t : TypeId}, w.heap[b]? = some (.cells c t (0, 0)) →
    (∃ c', (w.setCells b o vs).heap[b]? = some (.cells c' t (0, 0)) ∧ c'.size = c.size) ∧ (∀ k, k ≠ b → (w.setCells b o vs).heap[k]? = w.heap[k]?) ∧ (w.setCells b o vs).heap.size = w.heap.size ∧
      (w.setCells b o vs).os = w.os ∧ (w.setCells b o vs).tape = w.tape ∧ (w.setCells b o vs).output = w.output
  | [], o, w, c, t, h => ⟨⟨c, h, rfl⟩, fun _ _ => rfl, rfl, rfl, rfl, rfl⟩
  | v :: r, o, w, c, t, h => by
    have h1 := heap_setCell_same w b o c t v h
    obtain ⟨⟨c', g1, g2⟩, g3, g4, g5, g6, g7⟩ := setCells_heap b r (o + 1) (w.setCell ⟨b, o, none⟩ v) h1
    refine ⟨⟨c', g1, by rw [g2]; simp⟩, fun k hk => (g3 k hk).trans (heap_setCell_other w _ k v hk), g4.trans (by simp [World.setCell]), g5, g6, g7⟩
theorem cell_heap {w : World} {b k : Nat} {c : Array Value} {t : TypeId} {z : Nat × Nat} (h : w.heap[b]? = some (.cells c t z)) : w.cell? ⟨b, k, none⟩ = c[k]? := by
  simp [World.cell?, h]
def vals32 (l : List Int) : List Value := l.map fun n => .int .u32 n
theorem repOb_ints {P : Program} {w : World} {B : Nat → Prop} {locs : Nat → Option Loc} {b off cap : Nat} {c : Array Value} {ty : TypeId} {l : List Int} (h : w.heap[b]? = some (.cells c ty (0, 0))) (hc : off + cap ≤ c.size) (hl : l.length ≤ cap)
    (hv : ∀ j v, (vals32 l)[j]? = some v → w.cell? ⟨b, off + j, none⟩ = some v) : RepOb P w B locs ⟨some ⟨b, off, none⟩, cap, 1, l.length⟩ (.f 0 1 (ints .u32 l)) := by
  refine ⟨rfl, by simp [ints], .inr ⟨b, off, c, ty, rfl, h, .inl rfl, by simpa using hc, by simpa [ints] using hl, fun i e he => ?_⟩⟩
  simp only [ints, List.getElem?_map, Option.map_eq_some_iff] at he
  obtain ⟨n, hn, rfl⟩ := he
  refine ⟨rfl, fun j x hx => ?_⟩
  cases j with
  | zero =>
    cases hx
    refine ⟨.int .u32 n, ?_, .int _ _⟩
    have := hv i (.int .u32 n) (by simp [vals32, hn])
    rw [cell_heap h] at this
    simpa using this
  | succ j => simp at hx
theorem insert_fn (et : TypeId) (l : List Int) (x : Int) (hl : l.length ≤ 1000000) :
    Fn Tryd.prog 49 [.one (.ofl 1 0), fzI .i64 0, .one (.ofl 1 1)] [.f 0 1 (ints .u32 l), .f et 1 [[FV.int .u32 x]]] (.one (.ofl 1 2)) [.no, .f et 1 [[FV.int .u32 x]], .f 0 1 (ints .u32 (x :: l))] := by
  intro ext w locs vals H hsz hrep
  obtain ⟨v0, hv0, l0, a0, c0, k1, k2, rfl, k3, k4, k5⟩ := hrep 0 _ rfl
  obtain ⟨v1, hv1, hr1⟩ := hrep 1 _ rfl
  obtain rfl := inv_int hr1
  obtain ⟨v2, hv2, l2, a2, c2, j1, j2, rfl, j3, j4, j5⟩ := hrep 2 _ rfl
  obtain ⟨l0', g1, hob⟩ := H.get (o := 0) (ob := .f 0 1 (ints .u32 l)) rfl (by simp) (by simp)
  rw [k1] at g1; cases g1
  obtain ⟨l2', g2, hob2⟩ := H.get (o := 1) (ob := .f et 1 [[FV.int .u32 x]]) rfl (by simp) (by simp)
  rw [j1] at g2; cases g2
  obtain ⟨m1, m2, m3⟩ := hob
  obtain ⟨n1, n2, n3⟩ := hob2
  rw [ints_len] at m2
  have n2' : l2.len = 1 := n2
  rcases n3 with ⟨e, _⟩ | ⟨vb, voff, vcc, vty, q1, q2, _, q4, q5, q6⟩
  · cases e
  have q5' : 1 ≤ l2.cap := q5
  have hc2 : c2 ≠ 0 := by omega
  have ha2 : a2 = some ⟨vb, voff, none⟩ := by rw [← q1]; exact j5.resolve_left hc2
  subst ha2
  have hvsz : vb < w.heap.size := by
    rcases Nat.lt_or_ge vb w.heap.size with h' | h'
    · exact h'
    · rw [Array.getElem?_eq_none h'] at q2; cases q2
  have hvx : ∀ j v, (vals32 [x])[j]? = some v → w.cell? ⟨vb, voff + j, none⟩ = some v := by
    intro j v hj
    cases j with
    | zero =>
      cases hj
      obtain ⟨_, h8⟩ := q6 0 _ rfl
      obtain ⟨v, hv, hr⟩ := h8 0 _ rfl
      cases hr
      rw [cell_heap q2]
      simpa using hv
    | succ j => simp [vals32] at hj
  have hone : ∀ (m : List Int), ∀ v ∈ vals32 m, v.oneCell' = true := by
    intro m v hv
    simp only [vals32, List.mem_map] at hv
    obtain ⟨n, _, rfl⟩ := hv
    rfl
  have hlenv : ∀ m : List Int, (vals32 m).length = m.length := by intro m; simp [vals32]
  have hvals : vals = #[.slice a0 l0.len c0, .int .i64 0, .slice (some ⟨vb, voff, none⟩) l2.len c2] := by
    apply Array.ext
    · simpa using hsz
    · intro i hi hi'
      have : i = 0 ∨ i = 1 ∨ i = 2 := by simp at hi'; omega
      rcases this with rfl | rfl | rfl
      · rw [Array.getElem?_eq_getElem hi] at hv0; simpa using hv0
      · rw [Array.getElem?_eq_getElem hi] at hv1; simpa using hv1
      · rw [Array.getElem?_eq_getElem hi] at hv2; simpa using hv2
  subst hvals
  rw [n2', m2]
  have fin : ∀ (w' : World) (l' : Loc) (cap : Nat) (hcap : l.length + 1 ≤ cap) (hcap2 : cap ≤ l'.cap) (hd' : ∀ d', l'.a = some d' → w.heap.size ≤ d'.block ∨ ∃ d, l0.a = some d ∧ d'.block = d.block)
      (hw : ∀ b, b < w.heap.size → (∀ d, l0.a = some d → b ≠ d.block) → w'.heap[b]? = w.heap[b]?) (hs : w.heap.size ≤ w'.heap.size) (hos : w'.os = w.os) (ht : w'.tape = w.tape) (ho : w'.output = w.output)
      (hlen : l'.len = l.length + 1) (hsz1 : l'.sz = 1) (hob : ∀ B locs, RepOb Tryd.prog w' B locs l' (.f 0 1 (ints .u32 (x :: l)))),
      ∃ v locs', Ending.returned (Value.slice l'.a (l.length + 1) cap) = .returned v ∧ RepH Tryd.prog ext w ⟨ownB locs [.f 0 1 (ints .u32 l), .f et 1 [[FV.int .u32 x]]], locs⟩ locs' [.no, .f et 1 [[FV.int .u32 x]], .f 0 1 (ints .u32 (x :: l))] w' ∧
        RT w' (Bar ext locs' [.no, .f et 1 [[FV.int .u32 x]], .f 0 1 (ints .u32 (x :: l))]) locs' (.one (.ofl 1 2)) v := by
    intro w' l' cap hcap hcap2 hd' hw hs hos ht ho hlen hsz1 hob
    obtain ⟨H', lt⟩ := H.move (w' := w') (o := 0) (id := 2) (ob0 := .f 0 1 (ints .u32 l)) (ob := .f 0 1 (ints .u32 (x :: l))) (l := l0) (l' := l') rfl rfl k1 (.inl rfl) hd' hw hs hos ht ho (fun _ => hob _ _)
    exact ⟨_, _, rfl, H', l', _, cap, rfl, hsz1, by rw [hlen], by rw [hlen]; exact hcap, hcap2, .inr rfl⟩
  rcases Nat.eq_zero_or_pos l.length with hl0 | hl0
  ·
    have hnil : l = [] := List.length_eq_zero_iff.1 hl0
    subst hnil
    rcases Nat.eq_zero_or_pos c0 with hc0 | hc0
    · subst hc0
      refine (Insert_end_grow a0 0 0 vb voff 1 c2 [] (vals32 [x]) w (by omega) (by omega) (by omega) (by omega) rfl rfl (fun _ => rfl) (fun _ _ j v h => by simp at h) hvx (hone _)).mono ?_
      rintro e w' ⟨rfl, rfl⟩
      have hge := grownCap_ge w (0 + 1) 0 48
      refine fin _ ⟨some ⟨w.heap.size, 0, none⟩, grownCap w (0 + 1) 0 48, 1, 1⟩ (grownCap w (0 + 1) 0 48) hge (Nat.le_refl _) (fun d' hd => by cases hd; exact .inl (Nat.le_refl _)) (fun b hb _ => alloc_old w.drew _ b hb) (by rw [alloc_size]; exact Nat.le_succ _) rfl rfl rfl rfl rfl (fun B locs => ?_)
      refine repOb_ints (l := [x]) (alloc_new w.drew _) ?_ hge (fun j v hj => ?_)
      · simp only [Array.size_append, List.size_toArray, size_zeroCells, hlenv]
        simp [Value.cells, vals32]
        omega
      · rw [cell_heap (b := w.heap.size) (show (w.drew.alloc _).heap[w.heap.size]? = some _ from alloc_new w.drew _)]
        have hj' : j < (vals32 [x]).length := (List.getElem?_eq_some_iff.1 hj).1
        rw [Array.getElem?_append_left (by simpa using hj')]
        simpa using hj
    · obtain ⟨b, off, cc, ty, p1, p2, _, p4, p5, p6⟩ := m3.resolve_left (by rintro ⟨_, _, h⟩; omega)
      have ha0 : a0 = some ⟨b, off, none⟩ := by rw [← p1]; exact k5.resolve_left (by omega)
      subst ha0
      have hcc : off + l0.cap ≤ cc.size := by simpa using p4
      refine (Insert_end_room b off 0 c0 vb voff 1 c2 (vals32 [x]) w (by omega) (by omega) (by omega) rfl (fun j hj => by rw [cell_heap p2, Array.getElem?_eq_getElem (by omega)]; rfl) (fun j hj => frozen_of_row w b _ cc ty p2) hvx (hone _)).mono ?_
      rintro e w' ⟨rfl, rfl⟩
      obtain ⟨⟨c', g1, g2⟩, g3, g4, g5, g6, g7⟩ := setCells_heap b (vals32 [x]) (off + 0) w p2
      have := fin _ ⟨some ⟨b, off, none⟩, l0.cap, 1, 1⟩ c0 (by simp; omega) k4 (fun d' hd => by cases hd; exact .inr ⟨_, p1, rfl⟩) (fun k hk hne => g3 k (hne _ p1)) (by omega) g5 g6 g7 rfl rfl (fun B locs => ?_)
      · exact this
      · refine repOb_ints (l := [x]) g1 (by rw [g2]; exact hcc) (by simp; omega) (fun j v hj => ?_)
        have hj' : j < (vals32 [x]).length := (List.getElem?_eq_some_iff.1 hj).1
        have := World.cell?_setCells_in b (vals32 [x]) (off + 0) w (fun t ht => by
          have : t = 0 := by simp [vals32] at ht; omega
          subst this
          rw [cell_heap p2, Array.getElem?_eq_getElem (by omega)]; rfl) j hj'
        rw [Nat.add_zero] at this ⊢
        rw [this]
        rw [List.getElem?_eq_getElem hj'] at hj
        exact hj
  ·
    obtain ⟨b, off, cc, ty, p1, p2, _, p4, p5, p6⟩ := m3.resolve_left (by rintro ⟨h, _, _⟩; rw [ints_eq_nil] at h; subst h; simp at hl0)
    have hcc : off + l0.cap ≤ cc.size := by simpa using p4
    rw [ints_len] at p5
    have hc0 : c0 ≠ 0 := by omega
    have ha0 : a0 = some ⟨b, off, none⟩ := by rw [← p1]; exact k5.resolve_left hc0
    subst ha0
    have hne : vb ≠ b := by
      have := H.apart 0 1 l0 l2 _ _ _ _ (by omega) rfl rfl rfl rfl k1 j1 p1 q1
      exact fun e => this e.symm
    have hcs : ∀ j v, (vals32 l)[j]? = some v → w.cell? ⟨b, off + j, none⟩ = some v := by
      intro j v hj
      simp only [vals32, List.getElem?_map, Option.map_eq_some_iff] at hj
      obtain ⟨n, hn, rfl⟩ := hj
      obtain ⟨_, h8⟩ := p6 j [FV.int .u32 n] (by simp [ints, hn])
      obtain ⟨v, hv, hr⟩ := h8 0 _ rfl
      cases hr
      rw [cell_heap p2]
      simpa using hv
    have hjoin : vals32 (x :: l) = vals32 [x] ++ vals32 l := by simp [vals32]
    rcases Nat.lt_or_ge c0 (l.length + 1) with hroom | hroom
    · refine (Insert_grow b off l.length c0 0 vb voff 1 c2 (vals32 l) (vals32 [x]) w hl0 (by omega) (by omega) hroom (by omega) (hlenv l) rfl hcs hvx (hone _) (hone _)).mono ?_
      rintro e w' ⟨rfl, rfl⟩
      have hge := grownCap_ge w (l.length + 1) c0 48
      generalize grownCap w (l.length + 1) c0 48 = G at hge
      obtain ⟨ROW, hROW⟩ : ∃ ROW : Array Value, ROW = ((vals32 l).take 0).toArray ++ Builtin.zeroCells (Value.int .u32 0).cells (l.length + 1 - 0) ++ Builtin.zeroCells (Value.int .u32 0).cells (G - (l.length + 1)) := ⟨_, rfl⟩
      rw [← hROW]
      have hRl : ROW.size = G := by
        rw [hROW]
        simp [size_zeroCells, Value.cells]
        omega
      obtain ⟨W1, hW1⟩ : ∃ W1 : World, W1 = (w.alloc (.cells ROW 48)).drew := ⟨_, rfl⟩
      rw [← hW1]
      have hN : W1.heap[w.heap.size]? = some (.cells ROW 48 (0, 0)) := by rw [hW1]; exact alloc_new w _
      have hO : ∀ k, k < w.heap.size → W1.heap[k]? = w.heap[k]? := fun k hk => by rw [hW1]; exact alloc_old w _ k hk
      have hS : W1.heap.size = w.heap.size + 1 := by rw [hW1]; exact alloc_size w _
      have hE : W1.os = w.os ∧ W1.tape = w.tape ∧ W1.output = w.output := by rw [hW1]; exact ⟨rfl, rfl, rfl⟩
      obtain ⟨⟨c1, e1, e2⟩, e3, e4, e5, e6, e7⟩ := setCells_heap w.heap.size (vals32 [x]) 0 W1 hN
      obtain ⟨W2, hW2⟩ : ∃ W2 : World, W2 = W1.setCells w.heap.size 0 (vals32 [x]) := ⟨_, rfl⟩
      have hcell2 : ∀ k, k < G → (W2.cell? ⟨w.heap.size, k, none⟩).isSome = true := fun k hk => by
        rw [hW2, cell_heap e1, Array.getElem?_eq_getElem (by omega)]; rfl
      rw [← hW2] at e1 e3 e4 e5 e6 e7 ⊢
      obtain ⟨⟨c2', f1, f2⟩, f3, f4, f5, f6, f7⟩ := setCells_heap w.heap.size ((vals32 l).drop 0) (0 + 1) W2.drew (show W2.drew.heap[w.heap.size]? = _ from e1)
      refine fin _ ⟨some ⟨w.heap.size, 0, none⟩, G, 1, l.length + 1⟩ G hge (Nat.le_refl _) (fun d' hd => by cases hd; exact .inl (Nat.le_refl _))
        (fun k hk _ => (f3 k (by omega)).trans ((e3 k (by omega)).trans (hO k hk))) (by rw [f4]; show _ ≤ W2.heap.size; omega) (f5.trans (e5.trans hE.1)) (f6.trans (e6.trans hE.2.1)) (f7.trans (e7.trans hE.2.2)) rfl rfl (fun B locs => ?_)
      refine repOb_ints (l := x :: l) f1 (by rw [f2, e2, hRl]; omega) (by simpa using hge) (fun j v hj => ?_)
      rw [hjoin] at hj
      cases j with
      | zero =>
        rw [World.cell?_setCells_out _ _ _ _ _ (fun _ _ => .inl (by simp))]
        have := World.cell?_setCells_in w.heap.size (vals32 [x]) 0 W1 (fun t ht => by rw [cell_heap hN, Array.getElem?_eq_getElem (by simp [vals32] at ht; omega)]; rfl) 0 (by simp [vals32])
        rw [← hW2] at this
        show W2.cell? _ = _
        rw [this]
        simpa [vals32] using hj
      | succ j =>
        rw [List.getElem?_append_right (by simp [vals32])] at hj
        have hj2 : (vals32 l)[j]? = some v := by simpa [vals32] using hj
        have hjl : j < (vals32 l).length := (List.getElem?_eq_some_iff.1 hj2).1
        have := World.cell?_setCells_in w.heap.size ((vals32 l).drop 0) (0 + 1) W2.drew (fun t ht => hcell2 _ (by simp [hlenv] at ht; omega)) j (by simpa using hjl)
        rw [show 0 + (j + 1) = 0 + 1 + j by omega, this]
        rw [List.getElem?_eq_getElem hjl] at hj2
        simpa using hj2
    · have hcsz : off + l.length + 1 ≤ cc.size := by omega
      refine (Insert_shift b off l.length c0 0 vb voff 1 c2 (vals32 l) (vals32 [x]) w hl0 (by omega) (by omega) (by omega) hne (hlenv l) rfl hcs
        (fun j hj => by rw [cell_heap p2, Array.getElem?_eq_getElem (by omega)]; rfl) (fun j hj => frozen_of_row w b _ cc ty p2) hvx (hone _) (hone _)
        vty ty vcc.size cc.size (by simp [World.shape?, q2]) (by simp [World.shape?, p2]) (by omega) (frozen_of_row w vb _ vcc vty q2) (frozen_of_row w vb _ vcc vty q2)).mono ?_
      rintro e w' ⟨rfl, rfl⟩
      obtain ⟨⟨c1, e1, e2⟩, e3, e4, e5, e6, e7⟩ := setCells_heap b ((vals32 l).drop 0) (off + (0 + 1)) w.drew (show w.drew.heap[b]? = _ from p2)
      obtain ⟨W2, hW2⟩ : ∃ W2 : World, W2 = w.drew.setCells b (off + (0 + 1)) ((vals32 l).drop 0) := ⟨_, rfl⟩
      rw [← hW2] at e1 e3 e4 e5 e6 e7 ⊢
      have hcell2 : ∀ k, k < cc.size → (W2.cell? ⟨b, k, none⟩).isSome = true := fun k hk => by
        rw [cell_heap e1, Array.getElem?_eq_getElem (by omega)]; rfl
      obtain ⟨⟨c2', f1, f2⟩, f3, f4, f5, f6, f7⟩ := setCells_heap b (vals32 [x]) (off + 0) W2 e1
      refine fin _ ⟨some ⟨b, off, none⟩, l0.cap, 1, l.length + 1⟩ c0 hroom k4 (fun d' hd => by cases hd; exact .inr ⟨_, p1, rfl⟩)
        (fun k hk hne => (f3 k (hne _ p1)).trans (e3 k (hne _ p1))) (by rw [f4, e4]; exact Nat.le_refl _) (f5.trans e5) (f6.trans e6) (f7.trans e7) rfl rfl (fun B locs => ?_)
      refine repOb_ints (l := x :: l) f1 (by rw [f2, e2]; exact hcc) (by simp; omega) (fun j v hj => ?_)
      rw [hjoin] at hj
      cases j with
      | zero =>
        have := World.cell?_setCells_in b (vals32 [x]) (off + 0) W2 (fun t ht => hcell2 _ (by simp [vals32] at ht; omega)) 0 (by simp [vals32])
        rw [Nat.add_zero] at this ⊢
        rw [this]
        simpa [vals32] using hj
      | succ j =>
        rw [List.getElem?_append_right (by simp [vals32])] at hj
        have hj2 : (vals32 l)[j]? = some v := by simpa [vals32] using hj
        have hjl : j < (vals32 l).length := (List.getElem?_eq_some_iff.1 hj2).1
        rw [World.cell?_setCells_out _ _ _ _ _ (fun _ _ => .inr (by simp [vals32]))]
        have := World.cell?_setCells_in b ((vals32 l).drop 0) (off + (0 + 1)) w.drew (fun t ht => by
          rw [show w.drew.cell? ⟨b, off + (0 + 1) + t, none⟩ = w.cell? ⟨b, off + (0 + 1) + t, none⟩ from rfl, cell_heap p2, Array.getElem?_eq_getElem (by simp [hlenv] at ht; omega)]; rfl) j (by simpa using hjl)
        rw [← hW2] at this
        rw [show off + (j + 1) = off + (0 + 1) + j by omega, this]
        rw [List.getElem?_eq_getElem hjl] at hj2
        simpa using hj2
end Go.Proofs.YtflmioakfboanaaDoor.Ev
end
section
set_option linter.unusedVariables false
set_option linter.unusedSimpArgs false
namespace Go.Proofs.YtflmioakfboanaaDoor.Ev
open Go
theorem digs_len_le {l : List Int} (hL : Lim 1000000000 l) {n : Nat} (h : (n : Int) ≤ val 1000000000 l) : (digs 1000000000 n).length ≤ l.length := by
  rw [digs_len (by omega)]
  have h1 := val_lt (B := 1000000000) (by omega) hL
  have h2 : ((1000000000 ^ l.length : Nat) : Int) = 1000000000 ^ l.length := by rw [Int.natCast_pow]; rfl
  omega
abbrev tup3 (s : Bool) (l : List Int) (s' : Bool) (l' : List Int) (e : Int) : TV := .tup [(true, [.fz (.bool s), .fz (.sl 1 (ints .u32 l))]), (true, [.fz (.bool s'), .fz (.sl 1 (ints .u32 l'))]), (false, [.fz (.int .i64 e)])]
def dvOk (a : Bool) (la : List Int) (b : Bool) (lb : List Int) : Bool := sndB a la && sndB b lb && decide (lb ≠ [])
def dvE (a : Bool) (la : List Int) (b : Bool) (lb : List Int) : Int := if dvOk a la b lb = true then 0 else if (sndB a la && sndB b lb) = true then 13 else 2
def dvQ (a : Bool) (la : List Int) (b : Bool) (lb : List Int) : Int := if dvOk a la b lb = true then Int.tdiv (sv a la) (sv b lb) else 0
def dvR (a : Bool) (la : List Int) (b : Bool) (lb : List Int) : Int := if dvOk a la b lb = true then Int.tmod (sv a la) (sv b lb) else 0
abbrev divT (a : Bool) (la : List Int) (b : Bool) (lb : List Int) : TV := tup3 (bigN (dvQ a la b lb)) (bigL (dvQ a la b lb)) (bigN (dvR a la b lb)) (bigL (dvR a la b lb)) (dvE a la b lb)
theorem outT_small {z : Int} (h : z.natAbs < 1000000000 ^ 64) : outS z = bigN z ∧ outL z = bigL z ∧ outE z = 0 := by
  have := (bigL_len z 64).2 h
  unfold outS outL outE
  rw [if_neg (by omega), if_neg (by omega), if_neg (by omega)]
  exact ⟨rfl, rfl, rfl⟩
theorem bigN_zero : bigN 0 = false := rfl
theorem bigL_zero : bigL 0 = [] := by unfold bigL; exact digs_zero _
theorem ring_div (x vo vb ρ q r B : Int) (h : x + B * ρ = q * vb + r) : x + B * (vo * vb + ρ) = (q + B * vo) * vb + r := by grind
theorem divide_loop (a b : Bool) (la lb : List Int) (hla : la.length ≤ 64) (hlb : lb.length ≤ 64) (hLa : Lim 1000000000 la) (hLb : Lim 1000000000 lb) (hb0 : 0 < val 1000000000 lb) :
    ∀ (k : Nat) (o : List Int) (ρ : Nat), k ≤ la.length → o.length = la.length → Lim 1000000000 o → (ρ : Int) < val 1000000000 lb → val 1000000000 (la.drop k) = val 1000000000 (o.drop k) * val 1000000000 lb + ρ →
    ∃ (o' : List Int) (ρ' : Nat), o'.length = la.length ∧ Lim 1000000000 o' ∧ (ρ' : Int) < val 1000000000 lb ∧ val 1000000000 la = val 1000000000 o' * val 1000000000 lb + ρ' ∧
      ∀ R : TV → List Ob → Prop, R (tup3 (outS (sv (!(a == b)) o')) (outL (sv (!(a == b)) o')) (outS (sv a (digs 1000000000 ρ'))) (outL (sv a (digs 1000000000 ρ'))) 0) [] → num_Divide_L0 R a (ints .u32 la) b (ints .u32 lb) ((k : Int) - 1) (ints .u32 o) (ints .u32 (digs 1000000000 ρ))
  | 0, o, ρ, hk, ho, hL, hρ, hv => by
    refine ⟨o, ρ, ho, hL, hρ, by simpa using hv, fun R hR => num_Divide_l0 ?_⟩
    unfold num_Divide_R0
    simp only [ints_len, ints_app, ints_snoc, ints_take, ints_drop, ints_set, ints_rep, ints_one, ex_rd, dec_t, dec_f, beq_t, beq_f, bne_t, bne_f, not_t, not_f, List.length_set, List.length_append, List.length_cons, List.length_nil, List.length_take, List.length_drop, List.length_replicate, Int.toNat_natCast, List.nil_append, Bool.not_true, Bool.not_false, Wk_nil, Wk_cons, wk1_same, wk1_f, and_true, true_and, Bool.false_eq_true, Bool.true_eq_false, false_implies, forall_const]
    have hd : (digs 1000000000 ρ).length ≤ lb.length := digs_len_le hLb (by omega)
    exact ⟨fun h => by omega, fun _ => ⟨_, _, _, of_ok _ o (by omega) hL, _, _, _, of_ok a _ (by omega) (digsB_lim _), hR⟩⟩
  | k + 1, o, ρ, hk, ho, hL, hρ, hv => by
    have hx := hLa.rd (by omega) k
    have va := val_drop 1000000000 la k (by omega)
    generalize hX : rd la k = x at hx va
    obtain ⟨X, rfl⟩ := Int.eq_ofNat_of_zero_le hx.1
    obtain ⟨V, hV⟩ : ∃ V : Nat, val 1000000000 lb = V := ⟨(val 1000000000 lb).toNat, by omega⟩
    rw [hV] at hb0 hρ hv
    have hV0 : 0 < V := by omega
    obtain ⟨r0, hr0⟩ : ∃ r0 : Nat, r0 = X + 1000000000 * ρ := ⟨_, rfl⟩
    have hd : (digs 1000000000 ρ).length ≤ lb.length := digs_len_le hLb (by omega)
    have hvr0 : val 1000000000 ((X : Int) :: digs 1000000000 ρ) = r0 := by
      simp only [val, digsB_val]; omega
    have hLr0 : Lim 1000000000 ((X : Int) :: digs 1000000000 ρ) := (digsB_lim ρ).cons (by omega) (by omega)
    have hlt : r0 < V * 1000000000 := by
      have : 1000000000 * (ρ + 1) ≤ 1000000000 * V := Nat.mul_le_mul_left _ (by omega)
      omega
    have hcut := cutO_ok ((X : Int) :: digs 1000000000 ρ) (by simp; omega) hLr0
    rw [hvr0, Int.toNat_natCast] at hcut
    have hdr0 : (digs 1000000000 r0).length ≤ 65 := by
      have := digs_len_le hLr0 (n := r0) (by omega)
      simp at this; omega
    have hhalf := halve_ok (digs 1000000000 r0) lb (by omega) (by omega) (digsB_lim _) hLb (digsB_norm _) (by omega) (by rw [digsB_val, hV]; omega)
    rw [digsB_val, hV, ← Int.natCast_ediv] at hhalf
    have hmod : r0 % V < V := Nat.mod_lt _ hV0
    have hq : r0 / V < 1000000000 := (Nat.div_lt_iff_lt_mul hV0).2 (by rw [Nat.mul_comm]; exact hlt)
    have hdm := Nat.div_add_mod r0 V
    generalize r0 / V = Q at hhalf hq hdm
    generalize r0 % V = ρ1 at hmod hdm
    have htimes := times_ok lb (Q : Int) (by omega) hLb (by omega) (by omega)
    rw [hV, ← Int.natCast_mul, Int.toNat_natCast] at htimes
    have hle : V * Q ≤ r0 := by omega
    obtain ⟨m, m1, m2, m3, m4⟩ := minusO_ok (digs 1000000000 r0) (digs 1000000000 (V * Q)) (by omega) (digsB_lim _) (digsB_lim _) (digsB_norm _) (by rw [digsB_val, digsB_val]; omega)
    rw [digsB_val, digsB_val] at m3
    have m3' : val 1000000000 m = (ρ1 : Int) := by omega
    have hcut2 := cutO_ok m (by omega) m2
    rw [m3', Int.toNat_natCast] at hcut2
    obtain ⟨o', ρ', g1, g2, g3, g4, g5⟩ := divide_loop a b la lb hla hlb hLa hLb (by omega) k (o.set k (Q : Int)) ρ1 (by omega) (by simpa using ho) (hL.set _ _ (by omega) (by omega)) (by rw [hV]; omega) (by
      rw [va, hv, val_drop 1000000000 _ k (by simpa using (show k < o.length by omega)), rd_set (by omega), drop_set, hV]
      refine ring_div _ _ _ _ _ _ _ ?_
      have h1 : (Q : Int) * (V : Int) = ((V * Q : Nat) : Int) := by rw [Int.natCast_mul, Int.mul_comm]
      rw [h1]
      omega)
    refine ⟨o', ρ', g1, g2, g3, g4, fun R hR => num_Divide_l0 ?_⟩
    have e1 : (((k + 1 : Nat) : Int) - 1) = (k : Int) := by omega
    have e2 : IntKind.wrap .i64 ((k : Int) - 1) = (k : Int) - 1 := w64 (by omega) (by omega)
    unfold num_Divide_R0
    rw [e1]
    refine ⟨fun _ => ⟨by omega, ?_⟩, fun h => absurd h (by simp)⟩
    rw [Int.toNat_natCast, ex_rd, hX]
    refine ⟨by omega, _, _, insert_fn _ _ _ (by omega), _, hcut, _, hhalf, ?_⟩
    rw [ints_set, ex_rd, rd_set (by omega)]
    simp only [ints_len, List.length_set]
    refine ⟨⟨by omega, by omega⟩, by omega, ⟨by omega, by omega⟩, by omega, _, htimes, _, m4, _, hcut2, ?_⟩
    rw [e2]
    exact g5 R hR
theorem natAbs_tdiv_le (a b : Int) : (Int.tdiv a b).natAbs ≤ a.natAbs := by
  rw [Int.natAbs_tdiv]; exact Nat.div_le_self _ _
theorem natAbs_tmod_le (a b : Int) : (Int.tmod a b).natAbs ≤ a.natAbs := by
  rw [Int.natAbs_tmod]; exact Nat.mod_le _ _
theorem sv_eq (s : Bool) (l : List Int) : sv s l = (if s = true then -1 else 1) * val 1000000000 l := by
  unfold sv; split <;> simp
theorem divide_ok (a b : Bool) (la lb : List Int) (ha : U32 la) (hb : U32 lb) (hla : la.length ≤ 100000) (hlb : lb.length ≤ 100000) :
    Fn Tryd.prog 25 [fzN a la, fzN b lb] [] (divT a la b lb) [] := by
  refine num_Divide_fn _ _ _ _ ?_
  unfold num_Divide_H
  refine ⟨_, both_ok a b la lb (by omega) (by omega), ?_⟩
  rw [not_t, not_f]
  refine ⟨fun h => ?_, fun h' => ?_⟩
  · have h0 : dvOk a la b lb = false := by unfold dvOk; rw [h]; rfl
    unfold divT dvQ dvR dvE
    simp only [h0, h, Bool.false_eq_true, if_false, bigN_zero, bigL_zero]
    exact ⟨rfl, trivial⟩
  · have h2 := h'
    rw [Bool.and_eq_true, sndB_iff ha, sndB_iff hb] at h2
    obtain ⟨sa, sb⟩ := h2
    rw [beq_t, beq_f, ints_len]
    refine ⟨fun h0 => ?_, fun h0 => ?_⟩
    · have hnil : lb = [] := List.length_eq_zero_iff.1 (by omega)
      have h0 : dvOk a la b lb = false := by unfold dvOk; simp [hnil]
      unfold divT dvQ dvR dvE
      simp only [h0, h', Bool.false_eq_true, if_false, if_true, bigN_zero, bigL_zero]
      exact ⟨rfl, trivial⟩
    · have hne : lb ≠ [] := fun e => h0 (by rw [e]; rfl)
      have hok : dvOk a la b lb = true := by unfold dvOk; rw [h']; simpa using hne
      have l1 := sa.len
      have l2 := sb.len
      have hvb : 0 < val 1000000000 lb := by
        have h1 := val_nonneg (B := 1000000000) (by omega) sb.lim
        have h2 := val_zero_iff (B := 1000000000) (by omega) sb.lim sb.norm
        have : val 1000000000 lb ≠ 0 := fun e => hne (h2.1 e)
        omega
      simp only [ints_len, ints_rep, Int.toNat_natCast]
      refine ⟨⟨by omega, by omega, by omega⟩, ?_⟩
      obtain ⟨o', ρ', g1, g2, g3, g4, g5⟩ := divide_loop a b la lb l1 l2 sa.lim sb.lim hvb la.length (List.replicate la.length 0) 0 (Nat.le_refl _) (by simp) (Lim.replicate (by omega) _) (by omega) (by
        rw [List.drop_length, List.drop_of_length_le (by simp)]; simp [val])
      rw [digs_zero] at g5
      rw [w64 (by omega) (by omega)]
      refine g5 _ ⟨?_, rfl⟩
      have ho0 := val_nonneg (B := 1000000000) (by omega) g2
      have va0 := val_nonneg (B := 1000000000) (by omega) sa.lim
      have hq : val 1000000000 o' = val 1000000000 la / val 1000000000 lb ∧ (ρ' : Int) = val 1000000000 la % val 1000000000 lb := by
        have e1 : val 1000000000 la / val 1000000000 lb = val 1000000000 o' := by
          rw [g4, Int.add_comm, Int.add_mul_ediv_right _ _ (by omega), Int.ediv_eq_zero_of_lt (by omega) g3]; omega
        refine ⟨e1.symm, ?_⟩
        have := Int.mul_ediv_add_emod (val 1000000000 la) (val 1000000000 lb)
        rw [e1, Int.mul_comm] at this
        omega
      have hQ : sv (!(a == b)) o' = Int.tdiv (sv a la) (sv b lb) := by
        rw [sv_eq, sv_eq, sv_eq, hq.1]
        rw [← Int.tdiv_eq_ediv_of_nonneg va0]
        cases a <;> cases b <;> simp [Int.neg_tdiv, Int.tdiv_neg]
      have hR : sv a (digs 1000000000 ρ') = Int.tmod (sv a la) (sv b lb) := by
        rw [sv_eq, sv_eq, sv_eq, digsB_val, hq.2]
        rw [← Int.tmod_eq_emod_of_nonneg va0]
        cases a <;> cases b <;> simp [Int.neg_tmod, Int.tmod_neg]
      have habs := snd_abs sa
      have hpow : (1000000000 : Nat) ^ la.length ≤ 1000000000 ^ 64 := Nat.pow_le_pow_right (by omega) l1
      obtain ⟨q1, q2, _⟩ := outT_small (z := Int.tdiv (sv a la) (sv b lb)) (Nat.lt_of_le_of_lt (natAbs_tdiv_le _ _) (Nat.lt_of_lt_of_le habs hpow))
      obtain ⟨r1, r2, _⟩ := outT_small (z := Int.tmod (sv a la) (sv b lb)) (Nat.lt_of_le_of_lt (natAbs_tmod_le _ _) (Nat.lt_of_lt_of_le habs hpow))
      rw [hQ, hR, q1, q2, r1, r2]
      unfold divT dvQ dvR dvE
      simp only [hok, if_true]
end Go.Proofs.YtflmioakfboanaaDoor.Ev
end
section
set_option linter.unusedVariables false
set_option maxRecDepth 100000
namespace Go.Proofs.YtflmioakfboanaaDoor.Ev
open Go
def ref01_trim_lv : List Nat → Keep := lvOf [([0, 0, 1, 1], ⟨9, 0, [], false⟩)]
def ref01_trim_S0 (d : List (List FV)) (n1 : Int) : St := (St.mk [(TV.one (AV.fz (FV.sl 1 d))), TV.und, TV.und, (TV.one (AV.fz (FV.int .i64 n1))), TV.und, TV.und, TV.und, TV.und, TV.und, TV.und, TV.und, TV.und, TV.und, TV.und, TV.und, TV.und, TV.und, TV.und, TV.und, TV.und, TV.und] [])
def ref01_trim_L0 (R : TV → List Ob → Prop) (d : List (List FV)) (n1 : Int) : Prop := LoopAt Tryd.prog (modeOf [] []) ref01_trim_lv Tryd.f52 none R [1, 1, 0, 0] (ref01_trim_S0 d n1)
def ref01_trim_R0 (R : TV → List Ob → Prop) (d : List (List FV)) (n1 : Int) : Prop :=
  ((((decide ((0 : Int) < n1)) = true) → (((0 : Int) ≤ (IntKind.wrap .i64 (n1 - 1))) ∧ (∃ n3 : Int, (((d)[(Int.toNat (IntKind.wrap .i64 (n1 - 1)))]? = (some [(FV.int .u8 n3)])) ∧ ((((n3 == 0) = true) → (ref01_trim_L0 R d (IntKind.wrap .i64 (n1 - 1)))) ∧ (((n3 == 0) = false) → ((((0 : Int) ≤ n1) ∧ (n1 ≤ (((List.length d) : Nat) : Int))) ∧ (R (TV.one (AV.fz (FV.sl 1 (List.take (Int.toNat n1) d)))) [])))))))) ∧ (((decide ((0 : Int) < n1)) = false) → ((((0 : Int) ≤ n1) ∧ (n1 ≤ (((List.length d) : Nat) : Int))) ∧ (R (TV.one (AV.fz (FV.sl 1 (List.take (Int.toNat n1) d)))) []))))
theorem ref01_trim_l0 {R : TV → List Ob → Prop} {d : List (List FV)} {n1 : Int} (h : ref01_trim_R0 R d n1) : ref01_trim_L0 R d n1 :=
  LoopAt.by_tr (by kernel_rfl) (by kernel_rfl) h
def ref01_trim_H (R : TV → List Ob → Prop) (d : List (List FV)) : Prop :=
  (ref01_trim_L0 R d (((List.length d) : Nat) : Int))
theorem ref01_trim_fn (d : List (List FV)) {r : TV} {h : List Ob} (H : ref01_trim_H (fun r' h' => r' = r ∧ h' = h) d) : Fn Tryd.prog 52 [(TV.one (AV.fz (FV.sl 1 d)))] [] r h :=
  Fn.by_tr (M := (modeOf [] [])) (lv := ref01_trim_lv) (own := none) (F := Tryd.f52) (by kernel_rfl) (by kernel_rfl) (by first | decide | simp) (by kernel_rfl) H
def ref01_Make_lv : List Nat → Keep := lvOf [([0, 1, 0, 1, 1, 1, 1], ⟨465, 0, [], false⟩), ([0, 1, 0, 1, 0, 0, 1, 0, 0, 1, 0, 1, 1, 1, 1], ⟨2001, 0, [], false⟩)]
def ref01_Make_S0 (neg : Bool) (es : List (List FV)) (i : Int) (o : List (List FV)) : St := (St.mk [(TV.one (AV.fz (FV.bool neg))), TV.und, TV.und, TV.und, (TV.one (AV.ptr 0 0 0 0)), TV.und, (TV.one (AV.fz (FV.sl 1 es))), (TV.one (AV.ofl 1 1)), (TV.one (AV.fz (FV.int .i64 i))), TV.und, TV.und, TV.und, TV.und, TV.und, TV.und, TV.und, TV.und, TV.und, TV.und, TV.und, TV.und, TV.und, TV.und, TV.und, TV.und, TV.und, TV.und, TV.und, TV.und, TV.und, TV.und, TV.und, TV.und, TV.und, TV.und, TV.und, TV.und, TV.und, TV.und, TV.und, TV.und, TV.und, TV.und, TV.und, TV.und, TV.und, TV.und, TV.und, TV.und, TV.und, TV.und, TV.und, TV.und, TV.und, TV.und, TV.und] [(Ob.g 24 [(AV.fz (FV.bool false)), (AV.ofl 1 2)]), (Ob.f 0 1 o), (Ob.f 0 1 ([] : List (List FV)))])
def ref01_Make_L0 (R : TV → List Ob → Prop) (neg : Bool) (es : List (List FV)) (i : Int) (o : List (List FV)) : Prop := LoopAt Tryd.prog (modeOf [] []) ref01_Make_lv Tryd.f54 none R [1, 1, 1, 1, 0, 1, 0] (ref01_Make_S0 neg es i o)
def ref01_Make_S1 (neg : Bool) (es : List (List FV)) (i1 : Int) (x : Int) (k : Int) (o1 : List (List FV)) : St := (St.mk [(TV.one (AV.fz (FV.bool neg))), TV.und, TV.und, TV.und, (TV.one (AV.ptr 0 0 0 0)), TV.und, (TV.one (AV.fz (FV.sl 1 es))), (TV.one (AV.ofl 1 1)), (TV.one (AV.fz (FV.int .i64 i1))), (TV.one (AV.fz (FV.int .u32 x))), (TV.one (AV.fz (FV.int .i64 k))), TV.und, TV.und, TV.und, TV.und, TV.und, TV.und, TV.und, TV.und, TV.und, TV.und, TV.und, TV.und, TV.und, TV.und, TV.und, TV.und, TV.und, TV.und, TV.und, TV.und, TV.und, TV.und, TV.und, TV.und, TV.und, TV.und, TV.und, TV.und, TV.und, TV.und, TV.und, TV.und, TV.und, TV.und, TV.und, TV.und, TV.und, TV.und, TV.und, TV.und, TV.und, TV.und, TV.und, TV.und, TV.und] [(Ob.g 24 [(AV.fz (FV.bool false)), (AV.ofl 1 2)]), (Ob.f 0 1 o1), (Ob.f 0 1 ([] : List (List FV)))])
def ref01_Make_L1 (R : TV → List Ob → Prop) (neg : Bool) (es : List (List FV)) (i1 : Int) (x : Int) (k : Int) (o1 : List (List FV)) : Prop := LoopAt Tryd.prog (modeOf [] []) ref01_Make_lv Tryd.f54 none R [1, 1, 1, 1, 0, 1, 0, 0, 1, 0, 0, 1, 0, 1, 0] (ref01_Make_S1 neg es i1 x k o1)
def ref01_Make_R0 (R : TV → List Ob → Prop) (neg : Bool) (es : List (List FV)) (i : Int) (o : List (List FV)) : Prop :=
  ((((decide (i < (((List.length es) : Nat) : Int))) = true) → (ref01_Make_L1 R neg es i 0 8 o)) ∧ (((decide (i < (((List.length es) : Nat) : Int))) = false) → (((neg = true) → (R (TV.tup [(true, [(AV.fz (FV.bool (decide ((0 : Int) < (((List.length es) : Nat) : Int))))), (AV.fz (FV.sl 1 o))]), (false, [(AV.fz (FV.bool true))])]) [])) ∧ ((neg = false) → (R (TV.tup [(true, [(AV.fz (FV.bool false)), (AV.fz (FV.sl 1 o))]), (false, [(AV.fz (FV.bool true))])]) [])))))
theorem ref01_Make_l0 {R : TV → List Ob → Prop} {neg : Bool} {es : List (List FV)} {i : Int} {o : List (List FV)} (h : ref01_Make_R0 R neg es i o) : ref01_Make_L0 R neg es i o :=
  LoopAt.by_tr (by kernel_rfl) (by kernel_rfl) h
def ref01_Make_R1 (R : TV → List Ob → Prop) (neg : Bool) (es : List (List FV)) (i1 : Int) (x : Int) (k : Int) (o1 : List (List FV)) : Prop :=
  ((((decide ((0 : Int) ≤ k)) = true) → ((((decide ((IntKind.wrap .i64 (i1 + k)) < (((List.length es) : Nat) : Int))) = true) → (((0 : Int) ≤ (IntKind.wrap .i64 (i1 + k))) ∧ (∃ n3 : Int, (((es)[(Int.toNat (IntKind.wrap .i64 (i1 + k)))]? = (some [(FV.int .u8 n3)])) ∧ (ref01_Make_L1 R neg es i1 (IntKind.wrap .u32 ((IntKind.wrap .u32 (x * 10)) + (IntKind.wrap .u32 n3))) (IntKind.wrap .i64 (k - 1)) o1))))) ∧ (((decide ((IntKind.wrap .i64 (i1 + k)) < (((List.length es) : Nat) : Int))) = false) → (ref01_Make_L1 R neg es i1 (IntKind.wrap .u32 (x * 10)) (IntKind.wrap .i64 (k - 1)) o1)))) ∧ (((decide ((0 : Int) ≤ k)) = false) → (((((List.length o1) + (List.length [[(FV.int .u32 x)]])) * 4) ≤ 140737488355328) ∧ (ref01_Make_L0 R neg es (IntKind.wrap .i64 (i1 + 9)) (o1 ++ [[(FV.int .u32 x)]])))))
theorem ref01_Make_l1 {R : TV → List Ob → Prop} {neg : Bool} {es : List (List FV)} {i1 : Int} {x : Int} {k : Int} {o1 : List (List FV)} (h : ref01_Make_R1 R neg es i1 x k o1) : ref01_Make_L1 R neg es i1 x k o1 :=
  LoopAt.by_tr (by kernel_rfl) (by kernel_rfl) h
def ref01_Make_H (R : TV → List Ob → Prop) (neg : Bool) (digits : List (List FV)) : Prop :=
  (∃ es1 : List (List FV), ((Fn Tryd.prog 52 [(TV.one (AV.fz (FV.sl 1 digits)))] [] (TV.one (AV.fz (FV.sl 1 es1))) []) ∧ ((((decide ((576 : Int) < (((List.length es1) : Nat) : Int))) = true) → (R (TV.tup [(true, [(AV.fz (FV.bool false)), (AV.fz (FV.sl 1 ([] : List (List FV))))]), (false, [(AV.fz (FV.bool false))])]) [])) ∧ (((decide ((576 : Int) < (((List.length es1) : Nat) : Int))) = false) → (ref01_Make_L0 R neg es1 0 ([] : List (List FV)))))))
theorem ref01_Make_fn (neg : Bool) (digits : List (List FV)) {r : TV} {h : List Ob} (H : ref01_Make_H (fun r' h' => r' = r ∧ h' = h) neg digits) : Fn Tryd.prog 54 [(TV.one (AV.fz (FV.bool neg))), (TV.one (AV.fz (FV.sl 1 digits)))] [] r h :=
  Fn.by_tr (M := (modeOf [] [])) (lv := ref01_Make_lv) (own := none) (F := Tryd.f54) (by kernel_rfl) (by kernel_rfl) (by first | decide | simp) (by kernel_rfl) H
def ref01_Same_lv : List Nat → Keep := lvOf [([0, 1, 0, 1, 1], ⟨44, 0, [], false⟩)]
def ref01_Same_S0 (a0 : Bool) (a1 : List (List FV)) (b0 : Bool) (b1 : List (List FV)) (i : Int) : St := (St.mk [TV.und, TV.und, (TV.one (AV.ptr 0 0 0 0)), (TV.one (AV.ptr 1 0 0 0)), TV.und, (TV.one (AV.fz (FV.int .i64 i))), TV.und, TV.und, TV.und, TV.und, TV.und, TV.und, TV.und, TV.und, TV.und, TV.und, TV.und, TV.und, TV.und, TV.und, TV.und, TV.und, TV.und, TV.und, TV.und, TV.und, TV.und, TV.und, TV.und, TV.und, TV.und, TV.und, TV.und, TV.und, TV.und, TV.und, TV.und, TV.und] [(Ob.g 24 [(AV.fz (FV.bool a0)), (AV.fz (FV.sl 1 a1))]), (Ob.g 24 [(AV.fz (FV.bool b0)), (AV.fz (FV.sl 1 b1))])])
def ref01_Same_L0 (R : TV → List Ob → Prop) (a0 : Bool) (a1 : List (List FV)) (b0 : Bool) (b1 : List (List FV)) (i : Int) : Prop := LoopAt Tryd.prog (modeOf [] []) ref01_Same_lv Tryd.f17 none R [1, 1, 0, 1, 0] (ref01_Same_S0 a0 a1 b0 b1 i)
def ref01_Same_R0 (R : TV → List Ob → Prop) (a0 : Bool) (a1 : List (List FV)) (b0 : Bool) (b1 : List (List FV)) (i : Int) : Prop :=
  ((((decide (i < (((List.length a1) : Nat) : Int))) = true) → (((0 : Int) ≤ i) ∧ (∃ n4 : Int, (((a1)[(Int.toNat i)]? = (some [(FV.int .u32 n4)])) ∧ (((0 : Int) ≤ i) ∧ (∃ n5 : Int, (((b1)[(Int.toNat i)]? = (some [(FV.int .u32 n5)])) ∧ ((((n4 != n5) = true) → (R (TV.one (AV.fz (FV.bool false))) [])) ∧ (((n4 != n5) = false) → (ref01_Same_L0 R a0 a1 b0 b1 (IntKind.wrap .i64 (i + 1)))))))))))) ∧ (((decide (i < (((List.length a1) : Nat) : Int))) = false) → (R (TV.one (AV.fz (FV.bool true))) [])))
theorem ref01_Same_l0 {R : TV → List Ob → Prop} {a0 : Bool} {a1 : List (List FV)} {b0 : Bool} {b1 : List (List FV)} {i : Int} (h : ref01_Same_R0 R a0 a1 b0 b1 i) : ref01_Same_L0 R a0 a1 b0 b1 i :=
  LoopAt.by_tr (by kernel_rfl) (by kernel_rfl) h
def ref01_Same_H (R : TV → List Ob → Prop) (a0 : Bool) (a1 : List (List FV)) (b0 : Bool) (b1 : List (List FV)) : Prop :=
  ((((Bool.not (a0 == b0)) = true) → (R (TV.one (AV.fz (FV.bool false))) [])) ∧ (((Bool.not (a0 == b0)) = false) → (((((((List.length a1) : Nat) : Int) != (((List.length b1) : Nat) : Int)) = true) → (R (TV.one (AV.fz (FV.bool false))) [])) ∧ ((((((List.length a1) : Nat) : Int) != (((List.length b1) : Nat) : Int)) = false) → (ref01_Same_L0 R a0 a1 b0 b1 0)))))
theorem ref01_Same_fn (a0 : Bool) (a1 : List (List FV)) (b0 : Bool) (b1 : List (List FV)) {r : TV} {h : List Ob} (H : ref01_Same_H (fun r' h' => r' = r ∧ h' = h) a0 a1 b0 b1) : Fn Tryd.prog 17 [(TV.agg [(AV.fz (FV.bool a0)), (AV.fz (FV.sl 1 a1))]), (TV.agg [(AV.fz (FV.bool b0)), (AV.fz (FV.sl 1 b1))])] [] r h :=
  Fn.by_tr (M := (modeOf [] [])) (lv := ref01_Same_lv) (own := none) (F := Tryd.f17) (by kernel_rfl) (by kernel_rfl) (by first | decide | simp) (by kernel_rfl) H
def ref01_Of_lv : List Nat → Keep := lvOf [([0, 0, 1, 1, 1, 1], ⟨29, 0, [], false⟩)]
def ref01_Of_S0 (n : Int) (u : Int) (o : List (List FV)) : St := (St.mk [(TV.one (AV.fz (FV.int .i64 n))), TV.und, (TV.one (AV.ptr 0 0 0 0)), (TV.one (AV.fz (FV.int .u64 u))), (TV.one (AV.ofl 1 1)), TV.und, TV.und, TV.und, TV.und, TV.und, TV.und, TV.und, TV.und, TV.und, TV.und, TV.und, TV.und, TV.und, TV.und, TV.und, TV.und, TV.und, TV.und, TV.und, TV.und, TV.und, TV.und, TV.und, TV.und, TV.und, TV.und] [(Ob.g 24 [(AV.fz (FV.bool false)), (AV.ofl 1 2)]), (Ob.f 0 1 o), (Ob.f 0 1 ([] : List (List FV)))])
def ref01_Of_L0 (R : TV → List Ob → Prop) (n : Int) (u : Int) (o : List (List FV)) : Prop := LoopAt Tryd.prog (modeOf [] []) ref01_Of_lv Tryd.f29 none R [1, 1, 1, 1, 0, 0] (ref01_Of_S0 n u o)
def ref01_Of_R0 (R : TV → List Ob → Prop) (n : Int) (u : Int) (o : List (List FV)) : Prop :=
  ((((decide ((0 : Int) < u)) = true) → (((10 : Int) ≠ 0) ∧ (((((List.length o) + (List.length [[(FV.int .u8 (IntKind.wrap .u8 (Int.tmod u 10)))]])) * 1) ≤ 140737488355328) ∧ (((10 : Int) ≠ 0) ∧ (ref01_Of_L0 R n (IntKind.wrap .u64 (Int.tdiv u 10)) (o ++ [[(FV.int .u8 (IntKind.wrap .u8 (Int.tmod u 10)))]])))))) ∧ (((decide ((0 : Int) < u)) = false) → (∃ b6 : Bool, (∃ es3 : List (List FV), (∃ b7 : Bool, ((Fn Tryd.prog 54 [(TV.one (AV.fz (FV.bool (decide (n < 0))))), (TV.one (AV.fz (FV.sl 1 o)))] [] (TV.tup [(true, [(AV.fz (FV.bool b6)), (AV.fz (FV.sl 1 es3))]), (false, [(AV.fz (FV.bool b7))])]) []) ∧ (R (TV.agg [(AV.fz (FV.bool b6)), (AV.fz (FV.sl 1 es3))]) [])))))))
theorem ref01_Of_l0 {R : TV → List Ob → Prop} {n : Int} {u : Int} {o : List (List FV)} (h : ref01_Of_R0 R n u o) : ref01_Of_L0 R n u o :=
  LoopAt.by_tr (by kernel_rfl) (by kernel_rfl) h
def ref01_Of_H (R : TV → List Ob → Prop) (n : Int) : Prop :=
  ((((decide (n < 0)) = true) → (ref01_Of_L0 R n (IntKind.wrap .u64 (0 - (IntKind.wrap .u64 n))) ([] : List (List FV)))) ∧ (((decide (n < 0)) = false) → (ref01_Of_L0 R n (IntKind.wrap .u64 n) ([] : List (List FV)))))
theorem ref01_Of_fn (n : Int) {r : TV} {h : List Ob} (H : ref01_Of_H (fun r' h' => r' = r ∧ h' = h) n) : Fn Tryd.prog 29 [(TV.one (AV.fz (FV.int .i64 n)))] [] r h :=
  Fn.by_tr (M := (modeOf [] [])) (lv := ref01_Of_lv) (own := none) (F := Tryd.f29) (by kernel_rfl) (by kernel_rfl) (by first | decide | simp) (by kernel_rfl) H
end Go.Proofs.YtflmioakfboanaaDoor.Ev
end
section
set_option linter.unusedVariables false
set_option linter.unusedSimpArgs false
namespace Go.Proofs.YtflmioakfboanaaDoor.Ev
open Go
theorem rtrim_loop (R : TV → List Ob → Prop) (d : List Int) (hd : d.length ≤ 1000000) (hL : Lim 10 d) (hR : R (fzS .u8 (digs 10 (val 10 d).toNat)) []) : ∀ n : Nat, n ≤ d.length → val 10 (d.take n) = val 10 d → ref01_trim_L0 R (ints .u8 d) n
  | 0, _, hv => by
    refine ref01_trim_l0 ?_
    unfold ref01_trim_R0
    simp only [ints_len, ints_app, ints_snoc, ints_take, ints_drop, ints_set, ints_rep, ints_one, ex_rd, dec_t, dec_f, beq_t, beq_f, bne_t, bne_f, not_t, not_f, List.length_set, List.length_append, List.length_cons, List.length_nil, List.length_take, List.length_drop, List.length_replicate, Int.toNat_natCast, List.nil_append, Bool.not_true, Bool.not_false, Wk_nil, Wk_cons, wk1_same, wk1_f, and_true, true_and, Bool.false_eq_true, Bool.true_eq_false, false_implies, forall_const]
    refine ⟨fun h => by omega, fun _ => ⟨by omega, ?_⟩⟩
    rw [← hv] at hR
    simp only [List.take_zero, val] at hR ⊢
    rw [show Int.toNat 0 = 0 from rfl, digs_zero] at hR
    exact hR
  | n + 1, hn, hv => by
    refine ref01_trim_l0 ?_
    have e1 : IntKind.wrap .i64 (((n + 1 : Nat) : Int) - 1) = (n : Int) := by rw [w64 (by omega) (by omega)]; omega
    unfold ref01_trim_R0
    simp only [ints_len, ints_app, ints_snoc, ints_take, ints_drop, ints_set, ints_rep, ints_one, ex_rd, dec_t, dec_f, beq_t, beq_f, bne_t, bne_f, not_t, not_f, List.length_set, List.length_append, List.length_cons, List.length_nil, List.length_take, List.length_drop, List.length_replicate, Int.toNat_natCast, List.nil_append, Bool.not_true, Bool.not_false, Wk_nil, Wk_cons, wk1_same, wk1_f, and_true, true_and, Bool.false_eq_true, Bool.true_eq_false, false_implies, forall_const, e1]
    have hs := val_take_succ 10 d n
    refine ⟨fun _ => ⟨by omega, by omega, fun h0 => ?_, fun h0 => ⟨by omega, ?_⟩⟩, fun h => by omega⟩
    · refine rtrim_loop R d hd hL hR n (by omega) ?_
      rw [h0, Int.mul_zero, Int.add_zero] at hs
      omega
    · have hnm : Norm (d.take (n + 1)) := norm_of_rd fun _ => by
        rw [List.length_take, Nat.min_eq_left hn, show n + 1 - 1 = n by omega]
        rw [rd_at _ n (by simp; omega), List.getElem_take, ← rd_at d n (by omega)]
        exact h0
      rw [← hv, digsT_eq (hL.take _) hnm] at hR
      exact hR
theorem rtrim_ok (d : List Int) (hd : d.length ≤ 1000000) (hL : Lim 10 d) : Fn Tryd.prog 52 [fzS .u8 d] [] (fzS .u8 (digs 10 (val 10 d).toNat)) [] := by
  refine ref01_trim_fn _ ?_
  unfold ref01_trim_H
  rw [ints_len]
  exact rtrim_loop _ d hd hL ⟨rfl, rfl⟩ d.length (Nat.le_refl _) (by rw [List.take_length])
theorem make_inner (neg : Bool) (d : List Int) (hd : d.length ≤ 1000000) (hL : Lim 10 d) (o : List Int) (ho : o.length ≤ 1000000) (i : Nat) (hi : i ≤ d.length) (R : TV → List Ob → Prop) : ∀ (t : Nat) (x : Int), t ≤ 9 → 0 ≤ x → x * 10 ^ t + 10 ^ t ≤ 1000000000 →
    ref01_Make_L0 R neg (ints .u8 d) ((i + 9 : Nat) : Int) (ints .u32 (o ++ [x * 10 ^ t + val 10 ((d.drop i).take t)])) → ref01_Make_L1 R neg (ints .u8 d) i x ((t : Int) - 1) (ints .u32 o)
  | 0, x, _, h0, h1, hr => by
    refine ref01_Make_l1 ?_
    have e1 : IntKind.wrap .i64 ((i : Int) + 9) = ((i + 9 : Nat) : Int) := w64 (by omega) (by omega)
    unfold ref01_Make_R1
    simp only [ints_len, ints_app, ints_snoc, ints_take, ints_drop, ints_set, ints_rep, ints_one, ex_rd, dec_t, dec_f, beq_t, beq_f, bne_t, bne_f, not_t, not_f, List.length_set, List.length_append, List.length_cons, List.length_nil, List.length_take, List.length_drop, List.length_replicate, Int.toNat_natCast, List.nil_append, Bool.not_true, Bool.not_false, Wk_nil, Wk_cons, wk1_same, wk1_f, and_true, true_and, Bool.false_eq_true, Bool.true_eq_false, false_implies, forall_const, e1]
    refine ⟨fun h => by omega, fun _ => ⟨by omega, ?_⟩⟩
    simpa [val] using hr
  | t + 1, x, ht, h0, h1, hr => by
    have hp : (10 : Int) ^ t ≤ 10 ^ 8 := pow_mono (by omega) (by omega)
    have hp0 : (0 : Int) < 10 ^ t := pow_pos' (by omega) t
    rw [Int.pow_succ] at h1
    have hx' : x * 10 + 10 ≤ 1000000000 := by
      have e : x * (10 ^ t * 10) + 10 ^ t * 10 = (x * 10 + 10) * 10 ^ t := by grind
      rw [e] at h1
      have : (x * 10 + 10) * 1 ≤ (x * 10 + 10) * 10 ^ t := Int.mul_le_mul_of_nonneg_left (by omega) (by omega)
      omega
    have e1 : IntKind.wrap .i64 ((i : Int) + (((t + 1 : Nat) : Int) - 1)) = ((i + t : Nat) : Int) := by rw [w64 (by omega) (by omega)]; omega
    have e2 : IntKind.wrap .i64 ((((t + 1 : Nat) : Int) - 1) - 1) = (t : Int) - 1 := by rw [w64 (by omega) (by omega)]; omega
    have e3 : IntKind.wrap .u32 (x * 10) = x * 10 := wu32 (by omega) (by omega)
    refine ref01_Make_l1 ?_
    unfold ref01_Make_R1
    simp only [ints_len, ints_app, ints_snoc, ints_take, ints_drop, ints_set, ints_rep, ints_one, ex_rd, dec_t, dec_f, beq_t, beq_f, bne_t, bne_f, not_t, not_f, List.length_set, List.length_append, List.length_cons, List.length_nil, List.length_take, List.length_drop, List.length_replicate, Int.toNat_natCast, List.nil_append, Bool.not_true, Bool.not_false, Wk_nil, Wk_cons, wk1_same, wk1_f, and_true, true_and, Bool.false_eq_true, Bool.true_eq_false, false_implies, forall_const, e1, e2, e3]
    have hg := hL.rd (by omega) (i + t)
    refine ⟨fun _ => ⟨fun hin => ⟨by omega, by omega, ?_⟩, fun hin => ?_⟩, fun h => by omega⟩
    · have e4 : IntKind.wrap .u32 (rd d (i + t)) = rd d (i + t) := wu32 (by omega) (by omega)
      have e5 : IntKind.wrap .u32 (x * 10 + rd d (i + t)) = x * 10 + rd d (i + t) := wu32 (by omega) (by omega)
      rw [e4, e5]
      refine make_inner neg d hd hL o ho i hi R t (x * 10 + rd d (i + t)) (by omega) (by omega) ?_ ?_
      · have e : (x * 10 + rd d (i + t)) * 10 ^ t + 10 ^ t = (x * 10 + (rd d (i + t) + 1)) * 10 ^ t := by grind
        have e2 : x * (10 ^ t * 10) + 10 ^ t * 10 = (x * 10 + 10) * 10 ^ t := by grind
        rw [e]
        rw [e2] at h1
        have : (x * 10 + (rd d (i + t) + 1)) * 10 ^ t ≤ (x * 10 + 10) * 10 ^ t := Int.mul_le_mul_of_nonneg_right (by omega) (Int.le_of_lt hp0)
        omega
      · have e3 : (d.drop i).take (t + 1) = (d.drop i).take t ++ [rd d (i + t)] := by
          rw [List.take_succ_eq_append_getElem (by simp; omega), rd_at d (i + t) (by omega)]
          simp
        rw [e3, val_snoc, List.length_take, List.length_drop, Nat.min_eq_left (by omega), Int.pow_succ] at hr
        have e4 : x * (10 ^ t * 10) + (val 10 ((d.drop i).take t) + 10 ^ t * rd d (i + t)) = (x * 10 + rd d (i + t)) * 10 ^ t + val 10 ((d.drop i).take t) := by grind
        rw [e4] at hr
        exact hr
    · refine make_inner neg d hd hL o ho i hi R t (x * 10) (by omega) (by omega) ?_ ?_
      · have e2 : x * (10 ^ t * 10) = x * 10 * 10 ^ t := by grind
        omega
      · have e3 : (d.drop i).take (t + 1) = (d.drop i).take t := by
          rw [List.take_of_length_le (by simp; omega), List.take_of_length_le (by simp; omega)]
        rw [e3, Int.pow_succ] at hr
        have e4 : x * (10 ^ t * 10) = x * 10 * 10 ^ t := by grind
        rw [e4] at hr
        exact hr
theorem make_loop (neg : Bool) (d : List Int) (hd : d.length ≤ 1000000) (hL : Lim 10 d) (hn : Norm d) (R : TV → List Ob → Prop) (hR : R (.tup [(true, [.fz (.bool (neg && decide (0 < d.length))), .fz (.sl 1 (ints .u32 (digs 1000000000 (val 10 d).toNat)))]), (false, [.fz (.bool true)])]) []) :
    ∀ (c i : Nat) (o : List Int), d.length ≤ i + c → i ≤ d.length + 8 → i = 9 * o.length → Lim 1000000000 o → val 1000000000 o = val 10 (d.take i) → (d.length ≤ i → Norm o) → ref01_Make_L0 R neg (ints .u8 d) i (ints .u32 o)
  | c, i, o, hc, hi8, h9, hlim, hv, hnx => by
    by_cases hin : i < d.length
    · cases c with
      | zero => omega
      | succ c =>
        obtain ⟨w, hw⟩ : ∃ w, w = val 10 ((d.drop i).take 9) := ⟨_, rfl⟩
        have hLd : Lim 10 ((d.drop i).take 9) := (hL.drop i).take 9
        have hw0 : 0 ≤ w := by rw [hw]; exact val_nonneg (by omega) hLd
        have hw1 : w < 1000000000 := by
          have h1 := val_lt (B := 10) (by omega) hLd
          have h2 : (10 : Int) ^ ((d.drop i).take 9).length ≤ 10 ^ 9 := pow_mono (by omega) (by simp; omega)
          omega
        have htk : d.take (i + 9) = d.take i ++ (d.drop i).take 9 := by rw [List.take_add]
        have g := make_loop neg d hd hL hn R hR c (i + 9) (o ++ [w]) (by omega) (by omega) (by simp; omega) (hlim.snoc hw0 hw1) (by
          rw [val_snoc, hv, htk, val_append, List.length_take, Nat.min_eq_left (by omega), ← pow9, ← h9, hw]) (fun hge => by
          refine norm_of_rd fun _ => ?_
          rw [List.length_append, List.length_singleton, Nat.add_sub_cancel, rd_at _ _ (by simp)]
          simp only [List.getElem_append_right (Nat.le_refl _), Nat.sub_self, List.getElem_cons_zero]
          intro hw'
          have hdn : Norm ((d.drop i).take 9) := by
            rw [List.take_of_length_le (by simp; omega)]
            intro h0
            rw [List.getLast_drop]
            exact hn _
          have := (val_zero_iff (B := 10) (by omega) hLd hdn).1 (by rw [← hw]; exact hw')
          have hlen : ((d.drop i).take 9).length = 0 := by rw [this]; rfl
          simp at hlen
          omega)
        have g2 := make_inner neg d hd hL o (by omega) i (by omega) R 9 0 (by omega) (by omega) (by omega) (by rw [Int.zero_mul, Int.zero_add, ← hw]; exact g)
        refine ref01_Make_l0 ?_
        unfold ref01_Make_R0
        simp only [ints_len, ints_app, ints_snoc, ints_take, ints_drop, ints_set, ints_rep, ints_one, ex_rd, dec_t, dec_f, beq_t, beq_f, bne_t, bne_f, not_t, not_f, List.length_set, List.length_append, List.length_cons, List.length_nil, List.length_take, List.length_drop, List.length_replicate, Int.toNat_natCast, List.nil_append, Bool.not_true, Bool.not_false, Wk_nil, Wk_cons, wk1_same, wk1_f, and_true, true_and, Bool.false_eq_true, Bool.true_eq_false, false_implies, forall_const]
        exact ⟨fun _ => g2, fun h => by omega⟩
    · rw [List.take_of_length_le (by omega)] at hv
      have ho := hnx (by omega)
      have e : digs 1000000000 (val 10 d).toNat = o := by rw [← hv]; exact digsB_eq hlim ho
      rw [e] at hR
      refine ref01_Make_l0 ?_
      unfold ref01_Make_R0
      simp only [ints_len, ints_app, ints_snoc, ints_take, ints_drop, ints_set, ints_rep, ints_one, ex_rd, dec_t, dec_f, beq_t, beq_f, bne_t, bne_f, not_t, not_f, List.length_set, List.length_append, List.length_cons, List.length_nil, List.length_take, List.length_drop, List.length_replicate, Int.toNat_natCast, List.nil_append, Bool.not_true, Bool.not_false, Wk_nil, Wk_cons, wk1_same, wk1_f, and_true, true_and, Bool.false_eq_true, Bool.true_eq_false, false_implies, forall_const]
      refine ⟨fun h => by omega, fun _ => ⟨fun hs => ?_, fun hs => ?_⟩⟩
      · subst hs
        have : decide ((0 : Int) < (d.length : Int)) = decide (0 < d.length) := by rw [decide_eq_decide]; omega
        rw [this]
        simpa using hR
      · subst hs
        simpa using hR
def mkS (s : Bool) (v : Int) : Bool := if 576 < (digs 10 v.toNat).length then false else s && decide (0 < v)
def mkL (v : Int) : List Int := if 576 < (digs 10 v.toNat).length then [] else digs 1000000000 v.toNat
def mkB (v : Int) : Bool := if 576 < (digs 10 v.toNat).length then false else true
theorem make_ok (s : Bool) (d : List Int) (hd : d.length ≤ 1000000) (hL : Lim 10 d) :
    Fn Tryd.prog 54 [fzB s, fzS .u8 d] [] (.tup [(true, [.fz (.bool (mkS s (val 10 d))), .fz (.sl 1 (ints .u32 (mkL (val 10 d))))]), (false, [.fz (.bool (mkB (val 10 d)))])]) [] := by
  refine ref01_Make_fn _ _ ?_
  unfold ref01_Make_H
  have hv0 := val_nonneg (B := 10) (by omega) hL
  have hlen : (digs 10 (val 10 d).toNat).length ≤ d.length := by
    rw [digs_len (by omega)]
    have h1 := val_lt (B := 10) (by omega) hL
    have h2 : ((10 ^ d.length : Nat) : Int) = 10 ^ d.length := by rw [Int.natCast_pow]; rfl
    omega
  refine ⟨_, rtrim_ok d hd hL, ?_⟩
  unfold mkS mkL mkB
  simp only [ints_len, ints_app, ints_snoc, ints_take, ints_drop, ints_set, ints_rep, ints_one, ex_rd, dec_t, dec_f, beq_t, beq_f, bne_t, bne_f, not_t, not_f, List.length_set, List.length_append, List.length_cons, List.length_nil, List.length_take, List.length_drop, List.length_replicate, Int.toNat_natCast, List.nil_append, Bool.not_true, Bool.not_false, Wk_nil, Wk_cons, wk1_same, wk1_f, and_true, true_and, Bool.false_eq_true, Bool.true_eq_false, false_implies, forall_const]
  refine ⟨fun h => ?_, fun h => ?_⟩
  · rw [if_pos (by omega), if_pos (by omega), if_pos (by omega)]; rfl
  · rw [if_neg (by omega), if_neg (by omega), if_neg (by omega)]
    have e : (val 10 (digs 10 (val 10 d).toNat)) = val 10 d := by rw [digsT_val]; omega
    refine make_loop s (digs 10 (val 10 d).toNat) (by omega) (digsT_lim _) (digsT_norm _) _ ⟨?_, rfl⟩ _ 0 [] (Nat.le_of_eq (Nat.zero_add _).symm) (by omega) rfl (Lim.nil _) (by simp [val]) (fun _ => Norm.nil)
    rw [e]
    have e2 : decide (0 < (digs 10 (val 10 d).toNat).length) = decide (0 < val 10 d) := by
      rw [decide_eq_decide]
      have := digs_nil (B := 10) (by omega) (val 10 d).toNat
      rw [← List.length_eq_zero_iff] at this
      omega
    rw [e2]
end Go.Proofs.YtflmioakfboanaaDoor.Ev
end
section
set_option linter.unusedVariables false
set_option linter.unusedSimpArgs false
namespace Go.Proofs.YtflmioakfboanaaDoor.Ev
open Go
theorem same_loop (s t : Bool) (a b : List Int) (ha : a.length ≤ 1000000) (hlen : a.length = b.length) (R : TV → List Ob → Prop) (hR : R (fzB (decide (a = b))) []) : ∀ (d i : Nat), i + d = a.length → a.take i = b.take i → ref01_Same_L0 R s (ints .u32 a) t (ints .u32 b) i
  | 0, i, hi, h => by
    rw [List.take_of_length_le (by omega), List.take_of_length_le (by omega)] at h
    refine ref01_Same_l0 ?_
    unfold ref01_Same_R0
    simp only [ints_len, ints_app, ints_snoc, ints_take, ints_drop, ints_set, ints_rep, ints_one, ex_rd, dec_t, dec_f, beq_t, beq_f, bne_t, bne_f, not_t, not_f, List.length_set, List.length_append, List.length_cons, List.length_nil, List.length_take, List.length_drop, List.length_replicate, Int.toNat_natCast, List.nil_append, Bool.not_true, Bool.not_false, Wk_nil, Wk_cons, wk1_same, wk1_f, and_true, true_and, Bool.false_eq_true, Bool.true_eq_false, false_implies, forall_const]
    exact ⟨fun h => by omega, fun _ => by simpa [h] using hR⟩
  | d + 1, i, hi, h => by
    refine ref01_Same_l0 ?_
    unfold ref01_Same_R0
    have e3 : IntKind.wrap .i64 ((i : Int) + 1) = ((i + 1 : Nat) : Int) := w64 (by omega) (by omega)
    simp only [ints_len, ints_app, ints_snoc, ints_take, ints_drop, ints_set, ints_rep, ints_one, ex_rd, dec_t, dec_f, beq_t, beq_f, bne_t, bne_f, not_t, not_f, List.length_set, List.length_append, List.length_cons, List.length_nil, List.length_take, List.length_drop, List.length_replicate, Int.toNat_natCast, List.nil_append, Bool.not_true, Bool.not_false, Wk_nil, Wk_cons, wk1_same, wk1_f, and_true, true_and, Bool.false_eq_true, Bool.true_eq_false, false_implies, forall_const, e3]
    refine ⟨fun _ => ⟨by omega, by omega, by omega, by omega, fun hne => ?_, fun he => ?_⟩, fun h => by omega⟩
    · have : ¬ a = b := fun e => hne (by rw [e])
      simpa [this] using hR
    · refine same_loop s t a b ha hlen R hR d (i + 1) (by omega) ?_
      rw [rd_at a i (by omega), rd_at b i (by omega)] at he
      rw [List.take_succ_eq_append_getElem (by omega), List.take_succ_eq_append_getElem (by omega), h, he]
theorem same_ok (s t : Bool) (a b : List Int) (ha : a.length ≤ 1000000) : Fn Tryd.prog 17 [fzN s a, fzN t b] [] (fzB (decide (s = t ∧ a = b))) [] := by
  refine ref01_Same_fn _ _ _ _ ?_
  unfold ref01_Same_H
  simp only [ints_len, ints_app, ints_snoc, ints_take, ints_drop, ints_set, ints_rep, ints_one, ex_rd, dec_t, dec_f, beq_t, beq_f, bne_t, bne_f, not_t, not_f, List.length_set, List.length_append, List.length_cons, List.length_nil, List.length_take, List.length_drop, List.length_replicate, Int.toNat_natCast, List.nil_append, Bool.not_true, Bool.not_false, Wk_nil, Wk_cons, wk1_same, wk1_f, and_true, true_and, Bool.false_eq_true, Bool.true_eq_false, false_implies, forall_const, beq_eq_false_iff_ne, beq_iff_eq]
  refine ⟨fun h => ?_, fun h => ⟨fun h2 => ?_, fun h2 => ?_⟩⟩
  · simp [h]
  · have : ¬ a = b := fun e => h2 (by rw [e])
    simp [this]
  · exact same_loop s t a b ha (by omega) _ ⟨by simp [h], rfl⟩ a.length 0 (by omega) (by simp)
set_option exponentiation.threshold 1000 in
theorem mk_out (s : Bool) (v : Int) (hv : 0 ≤ v) : (mkB v = true → outE (if s = true then -v else v) = 0 ∧ outS (if s = true then -v else v) = mkS s v ∧ outL (if s = true then -v else v) = mkL v) ∧
    (mkB v = false → outE (if s = true then -v else v) = 6 ∧ outS (if s = true then -v else v) = false ∧ outL (if s = true then -v else v) = []) := by
  have e : ((if s = true then -v else v)).natAbs = v.toNat := by split <;> omega
  have h1 := digs_len (B := 10) (by omega) v.toNat 576
  have h2 := bigL_len (if s = true then -v else v) 64
  rw [e] at h2
  have h3 : (10 : Nat) ^ 576 = 1000000000 ^ 64 := pow9N 64
  rw [h3] at h1
  unfold mkB mkS mkL outE outS outL
  by_cases hc : 576 < (digs 10 v.toNat).length
  · have : 64 < (bigL (if s = true then -v else v)).length := by omega
    rw [if_pos hc, if_pos hc, if_pos hc, if_pos this, if_pos this, if_pos this]
    exact ⟨(fun h => by cases h), fun _ => ⟨rfl, rfl, rfl⟩⟩
  · have : ¬ 64 < (bigL (if s = true then -v else v)).length := by omega
    rw [if_neg hc, if_neg hc, if_neg hc, if_neg this, if_neg this, if_neg this]
    refine ⟨fun _ => ⟨rfl, ?_, ?_⟩, (fun h => by cases h)⟩
    · unfold bigN
      cases s <;> simp <;> omega
    · unfold bigL; rw [e]
end Go.Proofs.YtflmioakfboanaaDoor.Ev
end
section
set_option linter.unusedVariables false
set_option linter.unusedSimpArgs false
namespace Go.Proofs.YtflmioakfboanaaDoor.Ev
open Go
theorem mk_small (s : Bool) (v : Int) (h0 : 0 ≤ v) (hv : v < 1000000000 ^ 64) : mkS s v = bigN (if s = true then -v else v) ∧ mkL v = bigL (if s = true then -v else v) := by
  have h1 : (digs 10 v.toNat).length ≤ 576 := by
    rw [digs_len (by omega)]
    have h3 : (10 : Int) ^ 576 = 1000000000 ^ 64 := pow9 64
    have h4 : (((10 : Nat) ^ 576 : Nat) : Int) = 10 ^ 576 := cast_ten_pow 576
    omega
  have hb : mkB v = true := by unfold mkB; rw [if_neg (by omega)]
  obtain ⟨g1, g2, g3⟩ := (mk_out s v h0).1 hb
  obtain ⟨k1, k2, _⟩ := outT_small (z := if s = true then -v else v) (by
    have : ((if s = true then -v else v)).natAbs = v.toNat := by split <;> omega
    rw [this]
    have h4 : (((1000000000 : Nat) ^ 64 : Nat) : Int) = 1000000000 ^ 64 := by rw [Int.natCast_pow]; rfl
    omega)
  exact ⟨by rw [← g2, k1], by rw [← g3, k2]⟩
theorem rofInt_loop (n : Int) (R : TV → List Ob → Prop) : ∀ (u : Nat) (o : List Int), u < 18446744073709551616 → o.length + (digs 10 u).length ≤ 200 → Lim 10 o →
    (R (fzN (mkS (decide (n < 0)) (val 10 o + 10 ^ o.length * u)) (mkL (val 10 o + 10 ^ o.length * u))) []) → ref01_Of_L0 R n u (ints .u8 o) := by
  intro u
  induction u using Nat.strongRecOn with
  | _ u ih =>
    intro o hu hl hL hR
    refine ref01_Of_l0 ?_
    unfold ref01_Of_R0
    rcases Nat.eq_zero_or_pos u with rfl | hp
    · simp only [ints_len, ints_app, ints_snoc, ints_take, ints_drop, ints_set, ints_rep, ints_one, ex_rd, dec_t, dec_f, beq_t, beq_f, bne_t, bne_f, not_t, not_f, List.length_set, List.length_append, List.length_cons, List.length_nil, List.length_take, List.length_drop, List.length_replicate, Int.toNat_natCast, List.nil_append, Bool.not_true, Bool.not_false, Wk_nil, Wk_cons, wk1_same, wk1_f, and_true, true_and, Bool.false_eq_true, Bool.true_eq_false, false_implies, forall_const]
      have e : val 10 o + 10 ^ o.length * ((0 : Nat) : Int) = val 10 o := by simp
      rw [e] at hR
      exact ⟨fun h => by omega, fun _ => ⟨_, _, _, make_ok _ o (by omega) hL, hR⟩⟩
    · rw [digs_pos (by omega) hp] at hl
      have e1 : Int.tmod (u : Int) 10 = ((u % 10 : Nat) : Int) := by rw [Int.tmod_eq_emod_of_nonneg (by omega)]; omega
      have e2 : Int.tdiv (u : Int) 10 = ((u / 10 : Nat) : Int) := by rw [Int.tdiv_eq_ediv_of_nonneg (by omega)]; omega
      have e3 : IntKind.wrap .u8 ((u % 10 : Nat) : Int) = ((u % 10 : Nat) : Int) := wu8 (by omega) (by omega)
      have e4 : IntKind.wrap .u64 ((u / 10 : Nat) : Int) = ((u / 10 : Nat) : Int) := wu64 (by omega) (by omega)
      simp only [ints_len, ints_app, ints_snoc, ints_take, ints_drop, ints_set, ints_rep, ints_one, ex_rd, dec_t, dec_f, beq_t, beq_f, bne_t, bne_f, not_t, not_f, List.length_set, List.length_append, List.length_cons, List.length_nil, List.length_take, List.length_drop, List.length_replicate, Int.toNat_natCast, List.nil_append, Bool.not_true, Bool.not_false, Wk_nil, Wk_cons, wk1_same, wk1_f, and_true, true_and, Bool.false_eq_true, Bool.true_eq_false, false_implies, forall_const, e1, e2, e3, e4]
      simp only [List.length_cons] at hl
      refine ⟨fun _ => ⟨by omega, by omega, by omega, ih (u / 10) (Nat.div_lt_self hp (by omega)) (o ++ [((u % 10 : Nat) : Int)]) (by omega) (by simp; omega) (hL.snoc (by omega) (by omega)) ?_⟩, fun h => by omega⟩
      have e : val 10 (o ++ [((u % 10 : Nat) : Int)]) + 10 ^ (o ++ [((u % 10 : Nat) : Int)]).length * ((u / 10 : Nat) : Int) = val 10 o + 10 ^ o.length * (u : Int) := by
        rw [val_snoc, List.length_append, List.length_singleton, Int.pow_succ, Int.add_assoc, Int.mul_assoc, ← Int.mul_add]
        congr 2
        omega
      rw [e]; exact hR
theorem rofInt_ok (n : Int) (h0 : -9223372036854775808 ≤ n) (h1 : n ≤ 9223372036854775807) : Fn Tryd.prog 29 [fzI .i64 n] [] (fzN (bigN n) (bigL n)) [] := by
  refine ref01_Of_fn _ ?_
  have hlen : (digs 10 n.natAbs).length ≤ 200 := by
    have h : (digs 10 n.natAbs).length ≤ 20 := (digs_len (by omega) _ _).2 (by omega)
    omega
  have hmk := mk_small (decide (n < 0)) (n.natAbs : Int) (by omega) (by
    have : (10 : Int) ^ 20 ≤ 1000000000 ^ 64 := by rw [← pow9]; exact pow_mono (by omega) (by omega)
    omega)
  have e0 : (if decide (n < 0) = true then -(n.natAbs : Int) else (n.natAbs : Int)) = n := by simp only [decide_eq_true_eq]; split <;> omega
  rw [e0] at hmk
  have hv : val 10 [] + 10 ^ ([] : List Int).length * (n.natAbs : Int) = (n.natAbs : Int) := by simp [val]
  unfold ref01_Of_H
  rw [dec_t, dec_f]
  refine ⟨fun h => ?_, fun h => ?_⟩
  · have e : IntKind.wrap .u64 (0 - IntKind.wrap .u64 n) = (n.natAbs : Int) := by
      simp [IntKind.wrap, IntKind.bits, IntKind.signed]; omega
    rw [e]
    exact rofInt_loop n _ n.natAbs [] (by omega) (by simpa using hlen) (Lim.nil _) ⟨by rw [hv, hmk.1, hmk.2], rfl⟩
  · have e : IntKind.wrap .u64 n = (n.natAbs : Int) := by
      simp [IntKind.wrap, IntKind.bits, IntKind.signed]; omega
    rw [e]
    exact rofInt_loop n _ n.natAbs [] (by omega) (by simpa using hlen) (Lim.nil _) ⟨by rw [hv, hmk.1, hmk.2], rfl⟩
end Go.Proofs.YtflmioakfboanaaDoor.Ev
end
section
set_option linter.unusedVariables false
set_option linter.unusedSimpArgs false
namespace Go.Proofs.YtflmioakfboanaaDoor.Ev
open Go Go.Proofs
def bs (s : ByteArray) : List Int := s.data.toList.map fun c => (c.toNat : Int)
def Bytes (l : List Int) : Prop := Lim 256 l
theorem Bytes.nil : Bytes [] := Lim.nil _
theorem Bytes.append {l m : List Int} (h : Bytes l) (k : Bytes m) : Bytes (l ++ m) := Lim.append h k
theorem u8_back {n : Int} (h0 : 0 ≤ n) (h1 : n < 256) : ((UInt8.ofNat n.toNat).toNat : Int) = n := by
  rw [UInt8.toNat_ofNat']; omega
theorem bs_of {l : List Int} (h : Bytes l) : bs (bytesOf l) = l := by
  simp only [bs, bytesOf, List.map_map]
  conv => rhs; rw [← List.map_id l]
  refine List.map_congr_left fun x hx => ?_
  have := h x hx
  simpa using u8_back this.1 this.2
theorem size_of (l : List Int) : (bytesOf l).size = l.length := by
  show (bytesOf l).data.size = _
  simp [bytesOf]
theorem size_bs (s : ByteArray) : s.size = (bs s).length := by
  show s.data.size = _
  simp [bs]
theorem map_bs (s : ByteArray) : List.map (fun c : UInt8 => [FV.int .u8 ((c.toNat : Nat) : Int)]) (Array.toList (ByteArray.data s)) = ints .u8 (bs s) := by
  simp [ints, bs]
end Go.Proofs.YtflmioakfboanaaDoor.Ev
end
section
set_option linter.unusedVariables false
set_option maxRecDepth 100000
namespace Go.Proofs.YtflmioakfboanaaDoor.Ev
open Go
def WriteByteF_lv : List Nat → Keep := lvOf []
def WriteByteF_H (R : TV → List Ob → Prop) (c : Int) : Prop :=
  ((Fn Tryd.prog 75 [(TV.one (AV.ptr 0 0 0 0))] [(Ob.g 74 [(AV.fz FV.nilp), (AV.nsl 1)])] (TV.tup []) [(Ob.g 74 [(AV.ptr 0 0 0 0), (AV.nsl 1)])]) ∧ (((((List.length ([] : List (List FV))) + (List.length [[(FV.int .u8 c)]])) * 1) ≤ 140737488355328) ∧ (R (TV.one (AV.fz (FV.ifc false))) [(Ob.g 74 [(AV.ptr 0 0 0 0), (AV.ofl 1 1)]), (Ob.f 5 1 (([] : List (List FV)) ++ [[(FV.int .u8 c)]]))])))
theorem WriteByteF_fn (c : Int) {r : TV} {h : List Ob} (H : WriteByteF_H (fun r' h' => r' = r ∧ Wk h' h) c) : Fn Tryd.prog 58 [(TV.one (AV.ptr 0 0 0 0)), (TV.one (AV.fz (FV.int .u8 c)))] [(Ob.g 74 [(AV.fz FV.nilp), (AV.nsl 1)])] r h :=
  Fn.by_trW (M := (modeOf [] [(75, [(Sig.mk 1 [] [(OT.g 74 [(AT.a (AV.ptr 0 0 0 0)), (AT.a (AV.nsl 1))])] 0)])])) (lv := WriteByteF_lv) (own := (some 1)) (F := Tryd.f58) (by kernel_rfl) (by kernel_rfl) (by first | decide | simp) (by kernel_rfl) H
def WriteStringF_lv : List Nat → Keep := lvOf []
def WriteStringF_H (R : TV → List Ob → Prop) (s : ByteArray) : Prop :=
  ((Fn Tryd.prog 75 [(TV.one (AV.ptr 0 0 0 0))] [(Ob.g 74 [(AV.fz FV.nilp), (AV.nsl 1)])] (TV.tup []) [(Ob.g 74 [(AV.ptr 0 0 0 0), (AV.nsl 1)])]) ∧ (((((List.length ([] : List (List FV))) + (List.length (List.map (fun b5 => [(FV.int .u8 (((UInt8.toNat b5) : Nat) : Int))]) (Array.toList (ByteArray.data s))))) * 1) ≤ 140737488355328) ∧ (R (TV.tup [(false, [(AV.fz (FV.int .i64 (((ByteArray.size s) : Nat) : Int)))]), (false, [(AV.fz (FV.ifc false))])]) [(Ob.g 74 [(AV.ptr 0 0 0 0), (AV.ofl 1 1)]), (Ob.f 5 1 (([] : List (List FV)) ++ (List.map (fun b7 => [(FV.int .u8 (((UInt8.toNat b7) : Nat) : Int))]) (Array.toList (ByteArray.data s)))))])))
theorem WriteStringF_fn (s : ByteArray) {r : TV} {h : List Ob} (H : WriteStringF_H (fun r' h' => r' = r ∧ Wk h' h) s) : Fn Tryd.prog 60 [(TV.one (AV.ptr 0 0 0 0)), (TV.one (AV.fz (FV.str s)))] [(Ob.g 74 [(AV.fz FV.nilp), (AV.nsl 1)])] r h :=
  Fn.by_trW (M := (modeOf [] [(75, [(Sig.mk 1 [] [(OT.g 74 [(AT.a (AV.ptr 0 0 0 0)), (AT.a (AV.nsl 1))])] 0)])])) (lv := WriteStringF_lv) (own := (some 1)) (F := Tryd.f60) (by kernel_rfl) (by kernel_rfl) (by first | decide | simp) (by kernel_rfl) H
def WriteStringU_lv : List Nat → Keep := lvOf []
def WriteStringU_H (R : TV → List Ob → Prop) (s : ByteArray) (o : List (List FV)) : Prop :=
  (∃ es1 : List (List FV), ((Fn Tryd.prog 75 [(TV.one (AV.ptr 0 0 0 0))] [(Ob.g 74 [(AV.ptr 0 0 0 0), (AV.ofl 1 1)]), (Ob.f 5 1 o)] (TV.tup []) [(Ob.g 74 [(AV.ptr 0 0 0 0), (AV.ofl 1 1)]), (Ob.f 5 1 es1)]) ∧ (((((List.length es1) + (List.length (List.map (fun b5 => [(FV.int .u8 (((UInt8.toNat b5) : Nat) : Int))]) (Array.toList (ByteArray.data s))))) * 1) ≤ 140737488355328) ∧ (R (TV.tup [(false, [(AV.fz (FV.int .i64 (((ByteArray.size s) : Nat) : Int)))]), (false, [(AV.fz (FV.ifc false))])]) [(Ob.g 74 [(AV.ptr 0 0 0 0), (AV.ofl 1 2)]), Ob.no, (Ob.f 5 1 (es1 ++ (List.map (fun b7 => [(FV.int .u8 (((UInt8.toNat b7) : Nat) : Int))]) (Array.toList (ByteArray.data s)))))]))))
theorem WriteStringU_fn (s : ByteArray) (o : List (List FV)) {r : TV} {h : List Ob} (H : WriteStringU_H (fun r' h' => r' = r ∧ Wk h' h) s o) : Fn Tryd.prog 60 [(TV.one (AV.ptr 0 0 0 0)), (TV.one (AV.fz (FV.str s)))] [(Ob.g 74 [(AV.ptr 0 0 0 0), (AV.ofl 1 1)]), (Ob.f 5 1 o)] r h :=
  Fn.by_trW (M := (modeOf [] [(75, [(Sig.mk 2 [] [(OT.g 74 [(AT.a (AV.ptr 0 0 0 0)), (AT.a (AV.ofl 1 1))]), (OT.f 5 1)] 0)])])) (lv := WriteStringU_lv) (own := (some 2)) (F := Tryd.f60) (by kernel_rfl) (by kernel_rfl) (by first | decide | simp) (by kernel_rfl) H
end Go.Proofs.YtflmioakfboanaaDoor.Ev
end
section
set_option linter.unusedVariables false
namespace Go.Proofs.YtflmioakfboanaaDoor.Ev
open Go Go.RowKit
theorem sizeBuilder : (Tryd.prog.info? 74).map (·.size) = some 2 := by kernel_rfl
theorem liesBuilder : liesAt Tryd.prog Tryd.prog.depth 74 (2 / Tryd.prog.cellsOf 74) 0 74 1 = true := by kernel_rfl
theorem infoByte : (Tryd.prog.info? 5).map (fun i => (i.zero, i.size, i.bytes)) = some (some (.int .u8 0), 1, 1) := by kernel_rfl
set_option maxHeartbeats 1000000 in
set_option maxRecDepth 100000 in
theorem copyCheck_used (b : Nat) (w : World) (h0 : w.cell? ⟨b, 0, none⟩ = some (.pointer (some ⟨b, 0, none⟩))) :
    Calls Tryd.prog 75 #[.pointer (some ⟨b, 0, none⟩)] w fun e w' => e = .returned (.tuple #[]) ∧ w' = w := by
  obtain ⟨j, hj, _⟩ := Option.map_eq_some_iff.1 sizeBuilder
  go_enter Tryd.func75, Tryd.ntmps75
  go_wp2
  rw [Lib.run_neq_ptr_same w _ Tryd.underlying72 hj]
  go_wp2
  go_end0
  exact ⟨rfl, rfl⟩
set_option maxHeartbeats 1000000 in
set_option maxRecDepth 100000 in
theorem copyCheck_fresh (b : Nat) (w : World) (h0 : w.cell? ⟨b, 0, none⟩ = some (.pointer none)) (hsh : w.shape? b = some (74, 2)) (hfz : w.frozen? ⟨b, 0, none⟩ = false) :
    Calls Tryd.prog 75 #[.pointer (some ⟨b, 0, none⟩)] w fun e w' => e = .returned (.tuple #[]) ∧ w' = w.setCell ⟨b, 0, none⟩ (.pointer (some ⟨b, 0, none⟩)) := by
  obtain ⟨j, hj, hjs⟩ := Option.map_eq_some_iff.1 sizeBuilder
  go_enter Tryd.func75, Tryd.ntmps75
  go_wp2
  rw [Lib.run_to_unsafe w ⟨b, 0, none⟩ Tryd.underlying72 Tryd.underlying107 hj (by rw [hjs]; decide) hsh (Nat.zero_lt_succ 1)]
  simp only [Result.andThen]
  rw [Oper.upon_value]
  go_wp2
  rw [run_callFunc_extern Tryd.func97 (by kernel_rfl) (by kernel_rfl) (by kernel_rfl) (e := Extern.AbiNoEscape.same) (by kernel_rfl)]
  rw [Lib.run_noEscape]
  simp only [Result.andThen]
  rw [Oper.upon_value]
  go_wp2
  rw [Lib.run_from_unsafe w ⟨b, 0, none⟩ Tryd.underlying107 Tryd.underlying72 hj hsh liesBuilder]
  simp only [Result.andThen]
  rw [Oper.upon_value]
  go_wp2
  go_end0
  exact ⟨rfl, rfl⟩
theorem ptr_at {P : Program} {ext : Nat → Prop} {w0 : World} {own0 : Own0} {locs : Nat → Option Loc} {h : List Ob} {w : World} (H : RepH P ext w0 own0 locs h w) {gt : TypeId} {cs : List AV} {rest : List Ob} (hh : h = .g gt cs :: rest) {vals : Array Value}
    (hrep : ∀ (i : Nat) (x : TV), [TV.one (.ptr 0 0 0 0)][i]? = some x → ∃ v, vals[i]? = some v ∧ RT w (Bar ext locs h) locs x v) (hsz : vals.size = 1) :
    ∃ l b c, vals = #[.pointer (some ⟨b, 0, none⟩)] ∧ locs 0 = some l ∧ l.a = some ⟨b, 0, none⟩ ∧ w.heap[b]? = some (.cells c gt (0, 0)) ∧ c.size = cs.length ∧ l.sz = cs.length ∧ ∀ (j : Nat) (x : AV), cs[j]? = some x → ∃ v, c[j]? = some v ∧ RA w (Bar ext locs h) locs x v := by
  subst hh
  obtain ⟨v, hv, l, d, h1, h2, h3⟩ := hrep 0 _ rfl
  obtain ⟨l', h4, h5, b, c, h6, h7, h8, h9⟩ := H.get (o := 0) (ob := .g gt cs) rfl (by simp) (by simp)
  rw [h1] at h4; cases h4
  rw [h2] at h6; cases h6
  refine ⟨l, b, c, ?_, h1, h2, h7, h8, h5, h9⟩
  have : vals = #[v] := by
    apply Array.ext
    · simpa using hsz
    · intro i hi hi'
      have : i = 0 := by simp at hi'; omega
      subst this
      have := hv
      rw [Array.getElem?_eq_getElem (by omega)] at this
      simpa using this
  rw [this, h3]
  simp
theorem copyCheck_fn_used (a : AV) (rest : List Ob) : Fn Tryd.prog 75 [.one (.ptr 0 0 0 0)] (.g 74 [.ptr 0 0 0 0, a] :: rest) (.tup []) (.g 74 [.ptr 0 0 0 0, a] :: rest) := by
  intro ext w locs vals H hsz hrep
  obtain ⟨l, b, c, rfl, h1, h2, h3, h4, h5, h6⟩ := ptr_at H rfl hrep hsz
  obtain ⟨v0, g1, l', d, g2, g3, g4⟩ := h6 0 _ rfl
  rw [h1] at g2; cases g2
  rw [h2] at g3; cases g3
  have h0 : w.cell? ⟨b, 0, none⟩ = some (.pointer (some ⟨b, 0, none⟩)) := by simp [World.cell?, h3, g1, g4]
  refine (copyCheck_used b w h0).mono ?_
  rintro e w' ⟨rfl, rfl⟩
  exact ⟨_, locs, rfl, H, #[], rfl, rfl, by simp⟩
theorem copyCheck_fn_fresh (a : AV) (rest : List Ob) : Fn Tryd.prog 75 [.one (.ptr 0 0 0 0)] (.g 74 [.fz .nilp, a] :: rest) (.tup []) (.g 74 [.ptr 0 0 0 0, a] :: rest) := by
  intro ext w locs vals H hsz hrep
  obtain ⟨l, b, c, rfl, h1, h2, h3, h4, h5, h6⟩ := ptr_at H rfl hrep hsz
  obtain ⟨v0, g1, g2⟩ := h6 0 _ rfl
  cases inv_nilp (locs := locs) g2
  have h0 : w.cell? ⟨b, 0, none⟩ = some (.pointer none) := by simp [World.cell?, h3, g1]
  have hc2 : c.size = 2 := h4
  have hsh : w.shape? b = some (74, 2) := by simp [World.shape?, h3, hc2]
  refine (copyCheck_fresh b w h0 hsh (frozen_of_row w b 0 c _ h3)).mono ?_
  rintro e w' ⟨rfl, rfl⟩
  have hw : (w.setCell ⟨b, 0, none⟩ (.pointer (some ⟨b, 0, none⟩))).heap.size = w.heap.size := by simp [World.setCell]
  obtain ⟨H', lt⟩ := H.upd (w' := w.setCell ⟨b, 0, none⟩ (.pointer (some ⟨b, 0, none⟩))) (o := 0) (ob0 := .g 74 [.fz .nilp, a]) (ob := .g 74 [.ptr 0 0 0 0, a]) rfl rfl h1 h2
    (fun k hk hne => heap_setCell_other w _ k _ hne) (by rw [hw]; exact Nat.le_refl _) rfl rfl rfl (fun lt => by
      refine ⟨h5, b, _, h2, heap_setCell_same w b 0 c _ _ h3, by simpa using h4, fun j x hx => ?_⟩
      match j, hx with
      | 0, hx =>
        cases hx
        exact ⟨.pointer (some ⟨b, 0, none⟩), by simp [hc2], l, _, h1, h2, by simp⟩
      | 1, hx =>
        cases hx
        obtain ⟨u, hu, hr⟩ := h6 1 _ rfl
        exact ⟨u, by simpa using hu, hr.later lt (fun _ _ h => h)⟩)
  exact ⟨_, locs, rfl, H', #[], rfl, rfl, by simp⟩
end Go.Proofs.YtflmioakfboanaaDoor.Ev
end
section
set_option linter.unusedVariables false
namespace Go.Proofs.YtflmioakfboanaaDoor.Ev
open Go Go.RowKit
theorem liesAt_bytes_at {P : Program} {e : TypeId} (hc : P.cellsOf e = 1) (count off n : Nat) (hn : off + n ≤ count) : liesAt P P.depth e count off e n = true := by
  have hd : P.depth = (2 * (P.types.size + Made.depth) + 1) + 1 := rfl
  rw [hd]
  simp only [liesAt, Bool.or_eq_true]
  left
  rw [hd]
  simp [rowAt, hc, hn, sameLayout, Nat.mod_one]
theorem unsafeString_at {P : Program} (w : World) (pt it ty e : TypeId) (hp : P.underlying pt = some (.pointer e)) (hc : P.cellsOf e = 1) (g off cells : Nat) (hsh : w.shape? g = some (e, cells)) (l : List UInt8) (h0 : l ≠ []) (hn : off + l.length ≤ cells) (h63 : l.length ≤ 9223372036854775807)
    (hcell : ∀ j x, l[j]? = some x → w.cell? ((⟨g, off, none⟩ : Addr).add j) = some (.int .u8 x.toNat)) :
    (Builtin.unsafeString_ #[pt, it] ty #[.pointer (some ⟨g, off, none⟩), .int .i64 l.length]).run P w = .ok (.string ⟨l.toArray⟩) (w.freeze ⟨g, off, none⟩ l.length) := by
  have hl : l.length ≠ 0 := by simpa using h0
  have hlb := Lib.run_loadBytes (P := P) w l ⟨g, off, none⟩ .empty hcell
  have hlies := liesAt_bytes_at (P := P) hc (cells / P.cellsOf e) off l.length (by rw [hc]; simpa using hn)
  have h63' : ¬ (9223372036854775807 : Int) < (l.length : Int) := by omega
  have hdef : Builtin.unsafeString_ #[pt, it] ty #[.pointer (some ⟨g, off, none⟩), .int .i64 l.length] =
      (do
        let n ← asInt (.int .i64 l.length)
        if n < 0 then runtimePanic (.error "unsafe.String: len out of range")
        if n > IntKind.i64.max then unsupported (.unsafePointer "String: a length above the largest int")
        if n = 0 then pure (.string .empty)
        else if ← variablesAt ⟨g, off, none⟩ (← elemOf pt) n.toNat then do
          let s ← loadBytes ⟨g, off, none⟩ .empty n.toNat
          freeze ⟨g, off, none⟩ n.toNat
          pure (.string s)
        else unsupported (.unsafePointer "String: not so many bytes at ptr")) := rfl
  rw [hdef]
  have hmax : IntKind.i64.max = 9223372036854775807 := rfl
  have hneg : ¬ (l.length : Int) < 0 := by omega
  simp [asInt, asIntOf, hmax, h63', hneg, hl, variablesAt, hsh, elemOf, run_underlying hp, hlies, hlb]
set_option maxHeartbeats 2000000 in
set_option maxRecDepth 100000 in
theorem String_run (b g off cap cells : Nat) (p : Value) (w : World) (l : List UInt8) (h0 : l ≠ []) (hbk : w.heap[b]? = some (.cells #[p, .slice (some ⟨g, off, none⟩) l.length cap] 74 (0, 0))) (hc0 : cap ≠ 0)
    (hsh : w.shape? g = some (5, cells)) (hn : off + l.length ≤ cells) (h63 : l.length ≤ 9223372036854775807)
    (hcell : ∀ j x, l[j]? = some x → w.cell? ((⟨g, off, none⟩ : Addr).add j) = some (.int .u8 x.toNat)) :
    Calls Tryd.prog 62 #[.pointer (some ⟨b, 0, none⟩)] w fun e w' => e = .returned (.string ⟨l.toArray⟩) ∧ (w' = w.freeze ⟨g, off, none⟩ l.length ∨ w' = (w.freeze ⟨g, off, none⟩ l.length).drew ∨ w' = w.drew.freeze ⟨g, off, none⟩ l.length) := by
  have c1 : w.cell? ⟨b, 1, none⟩ = some (.slice (some ⟨g, off, none⟩) l.length cap) := by rw [Lib.cell_of_heap hbk]; rfl
  have c1' : w.drew.cell? ⟨b, 1, none⟩ = some (.slice (some ⟨g, off, none⟩) l.length cap) := c1
  have hSD : ∀ w : World, (Builtin.unsafeSliceData_ #[46] 92 #[.slice (some ⟨g, off, none⟩) l.length cap]).run Tryd.prog w = .ok (.pointer (some ⟨g, off, none⟩)) w := fun w => Lib.run_unsafeSliceData_row w _ _ _ _ _ hc0
  have hUS := unsafeString_at (P := Tryd.prog) w 92 3 9 5 Tryd.underlying92 (by kernel_rfl) g off cells hsh l h0 hn h63 hcell
  have hUS' := unsafeString_at (P := Tryd.prog) w.drew 92 3 9 5 Tryd.underlying92 (by kernel_rfl) g off cells hsh l h0 hn h63 hcell
  have mixed : Tryd.prog.follows .mixedOrders = true := by kernel_rfl
  go_enter Tryd.func62, Tryd.ntmps62
  go_wp2
  go_region_o
  all_goals (go_wp2; go_ret; first | exact ⟨rfl, .inl rfl⟩ | exact ⟨rfl, .inr (.inl rfl)⟩ | exact ⟨rfl, .inr (.inr rfl)⟩)
theorem heap_freeze_other (w : World) (a : Addr) (n k : Nat) (h : k ≠ a.block) : (w.freeze a n).heap[k]? = w.heap[k]? := by
  unfold World.freeze
  split
  · rfl
  · simp only [Array.getElem?_modify]
    rw [if_neg (fun e => h e.symm)]
theorem heap_freeze_same (w : World) (a : Addr) (n : Nat) {c : Array Value} {t : TypeId} {z : Nat × Nat} (h : w.heap[a.block]? = some (.cells c t z)) : ∃ z', (w.freeze a n).heap[a.block]? = some (.cells c t z') := by
  unfold World.freeze
  split
  · exact ⟨_, h⟩
  · simp only [Array.getElem?_modify, if_true, h, Option.map_some]
    exact ⟨_, rfl⟩
theorem size_freeze (w : World) (a : Addr) (n : Nat) : (w.freeze a n).heap.size = w.heap.size := by
  unfold World.freeze
  split
  · rfl
  · simp
def bytesRow (ns : List Int) : List (List FV) := ns.map fun n => [FV.int .u8 n]
theorem String_fn (a0 : AV) (ns : List Int) (hne : ns ≠ []) (hb : ∀ n ∈ ns, 0 ≤ n ∧ n < 256) (h63 : ns.length ≤ 9223372036854775807) :
    Fn Tryd.prog 62 [.one (.ptr 0 0 0 0)] [.g 74 [a0, .ofl 1 1], .f 5 1 (bytesRow ns)] (.one (.fz (.str (bytesOf ns)))) [.g 74 [a0, .ofl 1 1], .z 1 (bytesRow ns)] := by
  intro ext w locs vals H hsz hrep
  obtain ⟨l, b, c, rfl, h1, h2, h3, h4, h5, h6⟩ := ptr_at H rfl hrep hsz
  obtain ⟨v1, g1, l1, a, cp, k1, k2, rfl, k3, k4, k5⟩ := h6 1 _ rfl
  obtain ⟨l', j1, hob⟩ := H.get (o := 1) (ob := .f 5 1 (bytesRow ns)) rfl (by simp) (by simp)
  rw [k1] at j1; cases j1
  obtain ⟨m1, m2, m3⟩ := hob
  have hlen : (bytesRow ns).length = ns.length := by simp [bytesRow]
  have hpos : 0 < ns.length := List.length_pos_iff.2 hne
  rcases m3 with ⟨e, _⟩ | ⟨g, off, cc, ty, n1, n2, n3, n4, n5, n6⟩
  · rw [e] at hlen; simp at hlen; omega
  · have hty : ty = 5 := n3.resolve_left (by decide)
    subst hty
    have hcp : cp ≠ 0 := by omega
    have ha : a = some ⟨g, off, none⟩ := by rw [← n1]; exact k5.resolve_left hcp
    subst ha
    have hcell : ∀ (j : Nat) (x : UInt8), (ns.map fun n => UInt8.ofNat n.toNat)[j]? = some x → w.cell? ((⟨g, off, none⟩ : Addr).add j) = some (.int .u8 x.toNat) := by
      intro j x hx
      simp only [List.getElem?_map, Option.map_eq_some_iff] at hx
      obtain ⟨n, hn, rfl⟩ := hx
      obtain ⟨_, h8⟩ := n6 j [FV.int .u8 n] (by simp [bytesRow, hn])
      obtain ⟨v, hv, hr⟩ := h8 0 _ rfl
      cases hr
      obtain ⟨r1, r2⟩ := hb n (List.mem_of_getElem? hn)
      have e1 : (⟨g, off, none⟩ : Addr).add j = ⟨g, off + j, none⟩ := by
        unfold Addr.add
        by_cases hj : j = 0
        · subst hj; rfl
        · simp [hj]
      have e2 : ((UInt8.ofNat n.toNat).toNat : Int) = n := by
        rw [UInt8.toNat_ofNat']
        omega
      rw [e1, e2]
      simp only [World.cell?, n2]
      simpa using hv
    have hbk : w.heap[b]? = some (.cells #[c[0]'(by rw [h4]; simp), .slice (some ⟨g, off, none⟩) (ns.map fun n => UInt8.ofNat n.toNat).length cp] 74 (0, 0)) := by
      rw [h3]
      congr 2
      apply Array.ext
      · simpa using h4
      · intro i hi hi'
        have hi2 : i < 2 := by simpa using hi'
        have hl : (ns.map fun n => UInt8.ofNat n.toNat).length = l1.len := by rw [m2, hlen]; simp
        match i, hi2 with
        | 0, _ => simp
        | 1, _ =>
          have := g1
          rw [Array.getElem?_eq_getElem (by rw [h4]; simp)] at this
          have := Option.some.inj this
          simpa [hl] using this
    refine (String_run b g off cp cc.size _ w (ns.map fun n => UInt8.ofNat n.toNat) (by simpa using hne) hbk hcp (by simp [World.shape?, n2]) (by simp; rw [hlen] at n5; omega) (by simpa using h63) hcell).mono ?_
    rintro e w' ⟨rfl, hw⟩
    have hfacts : (∀ k, k ≠ g → w'.heap[k]? = w.heap[k]?) ∧ (∃ z, w'.heap[g]? = some (.cells cc 5 z)) ∧ w'.heap.size = w.heap.size ∧ w'.os = w.os ∧ w'.tape = w.tape ∧ w'.output = w.output := by
      have base : ∀ w1 : World, w1.heap = w.heap → w1.os = w.os → w1.tape = w.tape → w1.output = w.output → ∀ n, (∀ k, k ≠ g → (w1.freeze ⟨g, off, none⟩ n).heap[k]? = w.heap[k]?) ∧ (∃ z, (w1.freeze ⟨g, off, none⟩ n).heap[g]? = some (.cells cc 5 z)) ∧ (w1.freeze ⟨g, off, none⟩ n).heap.size = w.heap.size ∧ (w1.freeze ⟨g, off, none⟩ n).os = w.os ∧ (w1.freeze ⟨g, off, none⟩ n).tape = w.tape ∧ (w1.freeze ⟨g, off, none⟩ n).output = w.output := by
        intro w1 e1 e2 e3 e4 n
        refine ⟨fun k hk => by rw [heap_freeze_other w1 _ n k hk, e1], heap_freeze_same w1 ⟨g, off, none⟩ n (by rw [e1]; exact n2), by rw [size_freeze, e1], ?_, ?_, ?_⟩ <;> (unfold World.freeze; split <;> assumption)
      rcases hw with rfl | rfl | rfl
      · exact base w rfl rfl rfl rfl _
      · exact base w rfl rfl rfl rfl _
      · exact base w.drew rfl rfl rfl rfl _
    obtain ⟨q1, ⟨z, q2⟩, q3, q4, q5, q6⟩ := hfacts
    have hne' : b ≠ g := by
      have := H.apart 0 1 l l1 _ _ _ _ (by simp) rfl rfl rfl rfl h1 k1 h2 n1
      exact this
    have st := H.step (w' := w') (locs' := locs) (h' := [.g 74 [a0, .ofl 1 1], .z 1 (bytesRow ns)]) (fun o => o = 1) (fun k => k = g) (fun k _ hk => q1 k hk) (by omega) q4 q5 q6
      (fun k _ hk => ⟨1, l1, _, _, rfl, rfl, k1, n1, hk.symm⟩) (fun _ _ h => h) (fun o ho => H.len o (by simpa using ho))
      (fun o ob hc ho => by
        match o, ho with
        | 0, ho => cases ho; exact ⟨rfl, rfl⟩
        | 1, _ => exact absurd rfl hc)
      (fun o lo ob d hc ho hlv hlo hd => by
        match o, ho with
        | 0, ho => rw [h1] at hlo; cases hlo; rw [h2] at hd; cases hd; exact hne'
        | 1, _ => exact absurd rfl hc)
      (fun k hk => by
        rintro ⟨o, lo, d, ob, r1, r2, r3, r4, rfl⟩
        match o, r1 with
        | 0, r1 => cases r1; exact ⟨0, lo, d, _, rfl, rfl, r3, r4, rfl⟩
        | 1, r1 => cases r1; cases r2)
      (fun o o' lo lo' ob ob' d d' hc hne ho ho' hlv => by subst hc; cases ho; cases hlv)
      (fun lt o ob hc ho => by
        subst hc
        cases ho
        refine .inr (.inr ⟨l1, k1, m1, m2, .inr ⟨g, off, n1, fun i e he => ?_⟩⟩)
        obtain ⟨s1, s2⟩ := n6 i e he
        refine ⟨s1, fun j x hx => ?_⟩
        obtain ⟨v, hv, hr⟩ := s2 j x hx
        refine ⟨?_, v, by simp only [World.cell?, q2]; exact hv, hr.later lt⟩
        rintro (hx' | ⟨o, lo, d, ob, r1, r2, r3, r4, r5⟩)
        · exact H.extOwn g hx' ⟨1, l1, _, _, rfl, rfl, k1, n1, rfl⟩
        · match o, r1 with
          | 0, r1 => cases r1; rw [h1] at r3; cases r3; rw [h2] at r4; cases r4; exact hne' r5
          | 1, r1 => cases r1; cases r2)
    exact ⟨_, locs, rfl, st.1, RF.str _⟩
end Go.Proofs.YtflmioakfboanaaDoor.Ev
end
section
set_option linter.unusedVariables false
set_option linter.unusedSimpArgs false
namespace Go.Proofs.YtflmioakfboanaaDoor.Ev
open Go
abbrev bF : List Ob := [.g 74 [.fz .nilp, .nsl 1]]
abbrev bU (l : List Int) : List Ob := [.g 74 [.ptr 0 0 0 0, .ofl 1 1], .f 5 1 (ints .u8 l)]
abbrev bV (l : List Int) : List Ob := [.g 74 [.ptr 0 0 0 0, .ofl 1 2], .no, .f 5 1 (ints .u8 l)]
abbrev p0 : TV := .one (.ptr 0 0 0 0)
abbrev wsR (n : Int) : TV := .tup [(false, [.fz (.int .i64 n)]), (false, [.fz (.ifc false)])]
theorem writeByteF_ok (c : Int) : Fn Tryd.prog 58 [p0, fzI .u8 c] bF (.one (.fz (.ifc false))) (bU [c]) := by
  refine WriteByteF_fn _ ?_
  unfold WriteByteF_H
  simp only [ints_len, ints_app, ints_snoc, ints_take, ints_drop, ints_set, ints_rep, ints_one, ex_rd, dec_t, dec_f, beq_t, beq_f, bne_t, bne_f, not_t, not_f, List.length_set, List.length_append, List.length_cons, List.length_nil, List.length_take, List.length_drop, List.length_replicate, Int.toNat_natCast, List.nil_append, Bool.not_true, Bool.not_false, Wk_nil, Wk_cons, wk1_same, wk1_f, and_true, true_and, Bool.false_eq_true, Bool.true_eq_false, false_implies, forall_const]
  exact ⟨copyCheck_fn_fresh _ _, by omega⟩
theorem writeStringF_ok (s : ByteArray) (hs : (bs s).length ≤ 100000000) : Fn Tryd.prog 60 [p0, .one (.fz (.str s))] bF (wsR (bs s).length) (bU (bs s)) := by
  refine WriteStringF_fn _ ?_
  unfold WriteStringF_H
  simp only [map_bs, size_bs]
  simp only [ints_len, ints_app, ints_snoc, ints_take, ints_drop, ints_set, ints_rep, ints_one, ex_rd, dec_t, dec_f, beq_t, beq_f, bne_t, bne_f, not_t, not_f, List.length_set, List.length_append, List.length_cons, List.length_nil, List.length_take, List.length_drop, List.length_replicate, Int.toNat_natCast, List.nil_append, Bool.not_true, Bool.not_false, Wk_nil, Wk_cons, wk1_same, wk1_f, and_true, true_and, Bool.false_eq_true, Bool.true_eq_false, false_implies, forall_const]
  exact ⟨copyCheck_fn_fresh _ _, by omega⟩
theorem writeStringU_ok (s : ByteArray) (l : List Int) (hs : (bs s).length ≤ 100000000) (hl : l.length ≤ 100000000) : Fn Tryd.prog 60 [p0, .one (.fz (.str s))] (bU l) (wsR (bs s).length) (bV (l ++ bs s)) := by
  refine WriteStringU_fn _ _ ?_
  unfold WriteStringU_H
  refine ⟨_, copyCheck_fn_used _ _, ?_⟩
  simp only [map_bs, size_bs]
  simp only [ints_len, ints_app, ints_snoc, ints_take, ints_drop, ints_set, ints_rep, ints_one, ex_rd, dec_t, dec_f, beq_t, beq_f, bne_t, bne_f, not_t, not_f, List.length_set, List.length_append, List.length_cons, List.length_nil, List.length_take, List.length_drop, List.length_replicate, Int.toNat_natCast, List.nil_append, Bool.not_true, Bool.not_false, Wk_nil, Wk_cons, wk1_same, wk1_f, and_true, true_and, Bool.false_eq_true, Bool.true_eq_false, false_implies, forall_const]
  omega
theorem stringU_ok (l : List Int) (hne : l ≠ []) (hb : Bytes l) (hl : l.length ≤ 100000000) :
    Fn Tryd.prog 62 [p0] (bU l) (.one (.fz (.str (bytesOf l)))) [.g 74 [.ptr 0 0 0 0, .ofl 1 1], .z 1 (ints .u8 l)] :=
  String_fn _ l hne (fun n hn => hb n hn) (by omega)
end Go.Proofs.YtflmioakfboanaaDoor.Ev
end
section
set_option linter.unusedVariables false
set_option maxRecDepth 100000
namespace Go.Proofs.YtflmioakfboanaaDoor.Ev
open Go
def num_Text_lv : List Nat → Keep := lvOf [([0, 1, 0, 1, 1, 1, 1, 1], ⟨26, 0, [], true⟩)]
def num_Text_S0 (x0 : Bool) (x1 : List (List FV)) (i : Int) (es : List (List FV)) : St := (St.mk [TV.und, (TV.one (AV.ptr 0 0 0 0)), TV.und, (TV.one (AV.ptr 1 0 0 0)), (TV.one (AV.fz (FV.int .i64 i))), TV.und, TV.und, TV.und, TV.und, TV.und, TV.und, TV.und, TV.und, TV.und, TV.und, TV.und, TV.und, TV.und, TV.und, TV.und, TV.und, TV.und, TV.und, TV.und, TV.und, TV.und, TV.und, TV.und, TV.und, TV.und, TV.und, TV.und, TV.und, TV.und, TV.und, TV.und, TV.und, TV.und, TV.und, TV.und, TV.und, TV.und, TV.und, TV.und, TV.und] [(Ob.g 24 [(AV.fz (FV.bool x0)), (AV.fz (FV.sl 1 x1))]), (Ob.g 74 [(AV.ptr 1 0 0 0), (AV.ofl 1 2)]), (Ob.f 5 1 es)])
def num_Text_L0 (R : TV → List Ob → Prop) (x0 : Bool) (x1 : List (List FV)) (i : Int) (es : List (List FV)) : Prop := LoopAt Tryd.prog (modeOf [] [(58, [(Sig.mk 1 [(false, [(AT.a (AV.fz (FV.ifc false)))])] [(OT.g 74 [(AT.a (AV.ptr 0 0 0 0)), (AT.a (AV.ofl 1 1))]), (OT.f 5 1)] 0), (Sig.mk 2 [(false, [(AT.a (AV.fz (FV.ifc false)))])] [(OT.g 74 [(AT.a (AV.ptr 0 0 0 0)), (AT.a (AV.ofl 1 2))]), OT.no, (OT.f 5 1)] 0)]), (60, [(Sig.mk 1 [(false, [(AT.k (CK.int .i64))]), (false, [(AT.a (AV.fz (FV.ifc false)))])] [(OT.g 74 [(AT.a (AV.ptr 0 0 0 0)), (AT.a (AV.ofl 1 1))]), (OT.f 5 1)] 0), (Sig.mk 2 [(false, [(AT.k (CK.int .i64))]), (false, [(AT.a (AV.fz (FV.ifc false)))])] [(OT.g 74 [(AT.a (AV.ptr 0 0 0 0)), (AT.a (AV.ofl 1 2))]), OT.no, (OT.f 5 1)] 0)]), (62, [(Sig.mk 2 [(false, [(AT.k CK.str)])] [(OT.g 74 [(AT.a (AV.ptr 0 0 0 0)), (AT.a (AV.ofl 1 1))]), (OT.z 1)] 0)])]) num_Text_lv Tryd.f33 none R [1, 1, 1, 1, 1, 0, 1, 0] (num_Text_S0 x0 x1 i es)
def num_Text_S1 (x0 : Bool) (x1 : List (List FV)) : St := (St.mk [TV.und, (TV.one (AV.ptr 0 0 0 0)), TV.und, (TV.one (AV.ptr 1 0 0 0)), (TV.one (AV.fz (FV.int .i64 (IntKind.wrap .i64 ((((List.length x1) : Nat) : Int) - 1))))), TV.und, TV.und, TV.und, TV.und, TV.und, TV.und, TV.und, TV.und, TV.und, TV.und, TV.und, TV.und, TV.und, TV.und, TV.und, TV.und, TV.und, TV.und, TV.und, TV.und, TV.und, TV.und, TV.und, TV.und, TV.und, TV.und, TV.und, TV.und, TV.und, TV.und, TV.und, TV.und, TV.und, TV.und, TV.und, TV.und, TV.und, TV.und, TV.und, TV.und] [(Ob.g 24 [(AV.fz (FV.bool x0)), (AV.fz (FV.sl 1 x1))]), (Ob.g 74 [(AV.fz FV.nilp), (AV.nsl 1)])])
def num_Text_L1 (R : TV → List Ob → Prop) (x0 : Bool) (x1 : List (List FV)) : Prop := LoopAt Tryd.prog (modeOf [] [(58, [(Sig.mk 1 [(false, [(AT.a (AV.fz (FV.ifc false)))])] [(OT.g 74 [(AT.a (AV.ptr 0 0 0 0)), (AT.a (AV.ofl 1 1))]), (OT.f 5 1)] 0), (Sig.mk 2 [(false, [(AT.a (AV.fz (FV.ifc false)))])] [(OT.g 74 [(AT.a (AV.ptr 0 0 0 0)), (AT.a (AV.ofl 1 2))]), OT.no, (OT.f 5 1)] 0)]), (60, [(Sig.mk 1 [(false, [(AT.k (CK.int .i64))]), (false, [(AT.a (AV.fz (FV.ifc false)))])] [(OT.g 74 [(AT.a (AV.ptr 0 0 0 0)), (AT.a (AV.ofl 1 1))]), (OT.f 5 1)] 0), (Sig.mk 2 [(false, [(AT.k (CK.int .i64))]), (false, [(AT.a (AV.fz (FV.ifc false)))])] [(OT.g 74 [(AT.a (AV.ptr 0 0 0 0)), (AT.a (AV.ofl 1 2))]), OT.no, (OT.f 5 1)] 0)]), (62, [(Sig.mk 2 [(false, [(AT.k CK.str)])] [(OT.g 74 [(AT.a (AV.ptr 0 0 0 0)), (AT.a (AV.ofl 1 1))]), (OT.z 1)] 0)])]) num_Text_lv Tryd.f33 none R [1, 1, 1, 1, 1, 0, 1, 0] (num_Text_S1 x0 x1)
def num_Text_R0 (R : TV → List Ob → Prop) (x0 : Bool) (x1 : List (List FV)) (i : Int) (es : List (List FV)) : Prop :=
  ((((decide ((0 : Int) ≤ i)) = true) → (((0 : Int) ≤ i) ∧ (∃ n12 : Int, (((x1)[(Int.toNat i)]? = (some [(FV.int .u32 n12)])) ∧ (∃ s8 : ByteArray, ((Fn Tryd.prog 59 [(TV.one (AV.fz (FV.int .i64 (IntKind.wrap .i64 n12))))] [] (TV.one (AV.fz (FV.str s8))) []) ∧ ((((decide (i < (IntKind.wrap .i64 ((((List.length x1) : Nat) : Int) - 1)))) = true) → (∃ s9 : ByteArray, ((Fn Tryd.prog 61 [(TV.one (AV.fz (FV.str (ByteArray.mk #[48])))), (TV.one (AV.fz (FV.int .i64 (IntKind.wrap .i64 (9 - (((ByteArray.size s8) : Nat) : Int))))))] [] (TV.one (AV.fz (FV.str s9))) []) ∧ (∃ es12 : List (List FV), (∃ n13 : Int, ((Fn Tryd.prog 60 [(TV.one (AV.ptr 0 0 0 0)), (TV.one (AV.fz (FV.str s9)))] [(Ob.g 74 [(AV.ptr 0 0 0 0), (AV.ofl 1 1)]), (Ob.f 5 1 es)] (TV.tup [(false, [(AV.fz (FV.int .i64 n13))]), (false, [(AV.fz (FV.ifc false))])]) [(Ob.g 74 [(AV.ptr 0 0 0 0), (AV.ofl 1 2)]), Ob.no, (Ob.f 5 1 es12)]) ∧ (∃ es13 : List (List FV), (∃ n14 : Int, ((Fn Tryd.prog 60 [(TV.one (AV.ptr 0 0 0 0)), (TV.one (AV.fz (FV.str s8)))] [(Ob.g 74 [(AV.ptr 0 0 0 0), (AV.ofl 1 1)]), (Ob.f 5 1 es12)] (TV.tup [(false, [(AV.fz (FV.int .i64 n14))]), (false, [(AV.fz (FV.ifc false))])]) [(Ob.g 74 [(AV.ptr 0 0 0 0), (AV.ofl 1 2)]), Ob.no, (Ob.f 5 1 es13)]) ∧ (num_Text_L0 R x0 x1 (IntKind.wrap .i64 (i - 1)) es13)))))))))) ∧ (((decide (i < (IntKind.wrap .i64 ((((List.length x1) : Nat) : Int) - 1)))) = false) → (∃ es14 : List (List FV), (∃ n15 : Int, ((Fn Tryd.prog 60 [(TV.one (AV.ptr 0 0 0 0)), (TV.one (AV.fz (FV.str s8)))] [(Ob.g 74 [(AV.ptr 0 0 0 0), (AV.ofl 1 1)]), (Ob.f 5 1 es)] (TV.tup [(false, [(AV.fz (FV.int .i64 n15))]), (false, [(AV.fz (FV.ifc false))])]) [(Ob.g 74 [(AV.ptr 0 0 0 0), (AV.ofl 1 2)]), Ob.no, (Ob.f 5 1 es14)]) ∧ (num_Text_L0 R x0 x1 (IntKind.wrap .i64 (i - 1)) es14)))))))))))) ∧ (((decide ((0 : Int) ≤ i)) = false) → (∃ es15 : List (List FV), (∃ s10 : ByteArray, ((Fn Tryd.prog 62 [(TV.one (AV.ptr 0 0 0 0))] [(Ob.g 74 [(AV.ptr 0 0 0 0), (AV.ofl 1 1)]), (Ob.f 5 1 es)] (TV.one (AV.fz (FV.str s10))) [(Ob.g 74 [(AV.ptr 0 0 0 0), (AV.ofl 1 1)]), (Ob.z 1 es15)]) ∧ (R (TV.one (AV.fz (FV.str s10))) []))))))
theorem num_Text_l0 {R : TV → List Ob → Prop} {x0 : Bool} {x1 : List (List FV)} {i : Int} {es : List (List FV)} (h : num_Text_R0 R x0 x1 i es) : num_Text_L0 R x0 x1 i es :=
  LoopAt.by_tr (by kernel_rfl) (by kernel_rfl) h
def num_Text_R1 (R : TV → List Ob → Prop) (x0 : Bool) (x1 : List (List FV)) : Prop :=
  ((((decide ((0 : Int) ≤ (IntKind.wrap .i64 ((((List.length x1) : Nat) : Int) - 1)))) = true) → (((0 : Int) ≤ (IntKind.wrap .i64 ((((List.length x1) : Nat) : Int) - 1))) ∧ (∃ n12 : Int, (((x1)[(Int.toNat (IntKind.wrap .i64 ((((List.length x1) : Nat) : Int) - 1)))]? = (some [(FV.int .u32 n12)])) ∧ (∃ s8 : ByteArray, ((Fn Tryd.prog 59 [(TV.one (AV.fz (FV.int .i64 (IntKind.wrap .i64 n12))))] [] (TV.one (AV.fz (FV.str s8))) []) ∧ ((((decide ((IntKind.wrap .i64 ((((List.length x1) : Nat) : Int) - 1)) < (IntKind.wrap .i64 ((((List.length x1) : Nat) : Int) - 1)))) = true) → (∃ s9 : ByteArray, ((Fn Tryd.prog 61 [(TV.one (AV.fz (FV.str (ByteArray.mk #[48])))), (TV.one (AV.fz (FV.int .i64 (IntKind.wrap .i64 (9 - (((ByteArray.size s8) : Nat) : Int))))))] [] (TV.one (AV.fz (FV.str s9))) []) ∧ (∃ es12 : List (List FV), (∃ n13 : Int, ((Fn Tryd.prog 60 [(TV.one (AV.ptr 0 0 0 0)), (TV.one (AV.fz (FV.str s9)))] [(Ob.g 74 [(AV.fz FV.nilp), (AV.nsl 1)])] (TV.tup [(false, [(AV.fz (FV.int .i64 n13))]), (false, [(AV.fz (FV.ifc false))])]) [(Ob.g 74 [(AV.ptr 0 0 0 0), (AV.ofl 1 1)]), (Ob.f 5 1 es12)]) ∧ (∃ es13 : List (List FV), (∃ n14 : Int, ((Fn Tryd.prog 60 [(TV.one (AV.ptr 0 0 0 0)), (TV.one (AV.fz (FV.str s8)))] [(Ob.g 74 [(AV.ptr 0 0 0 0), (AV.ofl 1 1)]), (Ob.f 5 1 es12)] (TV.tup [(false, [(AV.fz (FV.int .i64 n14))]), (false, [(AV.fz (FV.ifc false))])]) [(Ob.g 74 [(AV.ptr 0 0 0 0), (AV.ofl 1 2)]), Ob.no, (Ob.f 5 1 es13)]) ∧ (num_Text_L0 R x0 x1 (IntKind.wrap .i64 ((IntKind.wrap .i64 ((((List.length x1) : Nat) : Int) - 1)) - 1)) es13)))))))))) ∧ (((decide ((IntKind.wrap .i64 ((((List.length x1) : Nat) : Int) - 1)) < (IntKind.wrap .i64 ((((List.length x1) : Nat) : Int) - 1)))) = false) → (∃ es14 : List (List FV), (∃ n15 : Int, ((Fn Tryd.prog 60 [(TV.one (AV.ptr 0 0 0 0)), (TV.one (AV.fz (FV.str s8)))] [(Ob.g 74 [(AV.fz FV.nilp), (AV.nsl 1)])] (TV.tup [(false, [(AV.fz (FV.int .i64 n15))]), (false, [(AV.fz (FV.ifc false))])]) [(Ob.g 74 [(AV.ptr 0 0 0 0), (AV.ofl 1 1)]), (Ob.f 5 1 es14)]) ∧ (num_Text_L0 R x0 x1 (IntKind.wrap .i64 ((IntKind.wrap .i64 ((((List.length x1) : Nat) : Int) - 1)) - 1)) es14)))))))))))) ∧ (((decide ((0 : Int) ≤ (IntKind.wrap .i64 ((((List.length x1) : Nat) : Int) - 1)))) = false) → False))
theorem num_Text_l1 {R : TV → List Ob → Prop} {x0 : Bool} {x1 : List (List FV)} (h : num_Text_R1 R x0 x1) : num_Text_L1 R x0 x1 :=
  LoopAt.by_tr (by kernel_rfl) (by kernel_rfl) h
def num_Text_H (R : TV → List Ob → Prop) (x0 : Bool) (x1 : List (List FV)) : Prop :=
  (∃ b1 : Bool, ((Fn Tryd.prog 32 [(TV.agg [(AV.fz (FV.bool x0)), (AV.fz (FV.sl 1 x1))])] [] (TV.one (AV.fz (FV.bool b1))) []) ∧ ((((Bool.not b1) = true) → (R (TV.one (AV.fz (FV.str (ByteArray.mk #[])))) [])) ∧ (((Bool.not b1) = false) → (((((((List.length x1) : Nat) : Int) == 0) = true) → (R (TV.one (AV.fz (FV.str (ByteArray.mk #[48])))) [])) ∧ ((((((List.length x1) : Nat) : Int) == 0) = false) → (((x0 = true) → (∃ es12 : List (List FV), ((Fn Tryd.prog 58 [(TV.one (AV.ptr 0 0 0 0)), (TV.one (AV.fz (FV.int .u8 45)))] [(Ob.g 74 [(AV.fz FV.nilp), (AV.nsl 1)])] (TV.one (AV.fz (FV.ifc false))) [(Ob.g 74 [(AV.ptr 0 0 0 0), (AV.ofl 1 1)]), (Ob.f 5 1 es12)]) ∧ (num_Text_L0 R x0 x1 (IntKind.wrap .i64 ((((List.length x1) : Nat) : Int) - 1)) es12)))) ∧ ((x0 = false) → (num_Text_L1 R x0 x1)))))))))
theorem num_Text_fn (x0 : Bool) (x1 : List (List FV)) {r : TV} {h : List Ob} (H : num_Text_H (fun r' h' => r' = r ∧ h' = h) x0 x1) : Fn Tryd.prog 33 [(TV.agg [(AV.fz (FV.bool x0)), (AV.fz (FV.sl 1 x1))])] [] r h :=
  Fn.by_tr (M := (modeOf [] [(58, [(Sig.mk 1 [(false, [(AT.a (AV.fz (FV.ifc false)))])] [(OT.g 74 [(AT.a (AV.ptr 0 0 0 0)), (AT.a (AV.ofl 1 1))]), (OT.f 5 1)] 0), (Sig.mk 2 [(false, [(AT.a (AV.fz (FV.ifc false)))])] [(OT.g 74 [(AT.a (AV.ptr 0 0 0 0)), (AT.a (AV.ofl 1 2))]), OT.no, (OT.f 5 1)] 0)]), (60, [(Sig.mk 1 [(false, [(AT.k (CK.int .i64))]), (false, [(AT.a (AV.fz (FV.ifc false)))])] [(OT.g 74 [(AT.a (AV.ptr 0 0 0 0)), (AT.a (AV.ofl 1 1))]), (OT.f 5 1)] 0), (Sig.mk 2 [(false, [(AT.k (CK.int .i64))]), (false, [(AT.a (AV.fz (FV.ifc false)))])] [(OT.g 74 [(AT.a (AV.ptr 0 0 0 0)), (AT.a (AV.ofl 1 2))]), OT.no, (OT.f 5 1)] 0)]), (62, [(Sig.mk 2 [(false, [(AT.k CK.str)])] [(OT.g 74 [(AT.a (AV.ptr 0 0 0 0)), (AT.a (AV.ofl 1 1))]), (OT.z 1)] 0)])])) (lv := num_Text_lv) (own := none) (F := Tryd.f33) (by kernel_rfl) (by kernel_rfl) (by first | decide | simp) (by kernel_rfl) H
end Go.Proofs.YtflmioakfboanaaDoor.Ev
end
section
set_option linter.unusedVariables false
namespace Go.Proofs.YtflmioakfboanaaDoor.Ev
open Go Go.RowKit
theorem RepH.below {P : Program} {ext : Nat → Prop} {w0 : World} {own0 : Own0} {locs : Nat → Option Loc} {w w' : World} (H : RepH P ext w0 own0 locs [] w) (hb : Below w.heap.size w w') : RepH P ext w0 own0 locs [] w' := by
  have hown : ∀ b, ¬ ownB locs [] b := by rintro b ⟨o, l, d, ob, h1, _⟩; simp at h1
  refine ⟨H.len, fun o ob ho => by simp at ho, fun o o' l l' ob ob' d d' _ ho => by simp at ho, fun b _ hb => hown b hb, fun b hb' => Nat.lt_of_lt_of_le (H.extlt b hb') hb.size, fun b _ hb => absurd hb (hown b), ?_, H.base, H.pins⟩
  exact ⟨Nat.le_trans H.since.size hb.size, fun b hlt hn => (hb.block b (Nat.lt_of_lt_of_le hlt H.since.size)).trans (H.since.block b hlt hn), hb.os.trans H.since.os, hb.tape.trans H.since.tape, hb.output.trans H.since.output⟩
def bareV : FV → Option Value
  | .int k n => some (.int k n)
  | .bool b => some (.bool b)
  | .str s => some (.string s)
  | _ => none
theorem bareV_ok {w : World} {B : Nat → Prop} {x : FV} {v u : Value} (h : bareV x = some v) (hr : RF w B x u) : u = v := by
  cases x <;> cases h <;> cases hr <;> rfl
theorem bareV_rep {w : World} {B : Nat → Prop} {x : FV} {v : Value} (h : bareV x = some v) : RF w B x v := by
  cases x <;> cases h <;> constructor
theorem args_bare {w : World} {B : Nat → Prop} {locs : Nat → Option Loc} : ∀ (xs : List FV) (vs vals : List Value), xs.mapM bareV = some vs → vals.length = xs.length →
    (∀ (i : Nat) (x : TV), (xs.map fun x => TV.one (.fz x))[i]? = some x → ∃ v, vals[i]? = some v ∧ RT w B locs x v) → vals = vs
  | [], vs, vals, h, hl, _ => by
    simp at h hl
    rw [hl, ← h]
  | x :: xs, vs, [], h, hl, _ => by simp at hl
  | x :: xs, vs, v :: vals, h, hl, hr => by
    simp only [List.mapM_cons, Option.bind_eq_bind, Option.bind_eq_some_iff, Option.pure_def, Option.some.injEq] at h
    obtain ⟨u, hu, us, hus, rfl⟩ := h
    obtain ⟨v', hv', hr'⟩ := hr 0 _ rfl
    cases hv'
    have h1 := bareV_ok hu hr'
    have h2 := args_bare xs us vals hus (by simpa using hl) (fun i y hy => hr (i + 1) y (by simpa using hy))
    rw [h1, h2]
theorem Fn.of_below {P : Program} {f : FuncId} (xs : List FV) {vs : List Value} {r : FV} {v : Value} (hx : xs.mapM bareV = some vs) (hr : bareV r = some v)
    (hc : ∀ w, Glob w → Calls P f vs.toArray w fun e w' => e = .returned v ∧ Below w.heap.size w w') : Fn P f (xs.map fun x => .one (.fz x)) [] (.one (.fz r)) [] := by
  intro ext w locs vals H hsz hrep
  have e : vals = vs.toArray := by
    have := args_bare xs vs vals.toList hx (by simpa using hsz) (fun i x h => by obtain ⟨v, h1, h2⟩ := hrep i x h; exact ⟨v, by simpa using h1, h2⟩)
    rw [← this]
  subst e
  refine (hc w H.glob).mono ?_
  rintro e w' ⟨rfl, hb⟩
  exact ⟨v, locs, rfl, H.below hb, bareV_rep hr⟩
end Go.Proofs.YtflmioakfboanaaDoor.Ev
end
section
namespace Go.Proofs
open Go.Shelf
def Tryd.laysM171_ren : Go.Shelf.Ren := ⟨fun | 171 => 59 | 243 => 76 | 246 => 98 | 283 => 111 | 284 => 112 | 285 => 113 | 286 => 114 | 129 => 122 | 317 => 121 | 318 => 123 | 319 => 124 | 320 => 125 | 337 => 130 | 338 => 131 | n => n, fun | 3 => 3 | 9 => 9 | 2 => 2 | 4 => 4 | 171 => 125 | 0 => 0 | 53 => 49 | 37 => 46 | 5 => 5 | 173 => 128 | 212 => 138 | 51 => 48 | 20 => 20 | 213 => 139 | 46 => 86 | 232 => 149 | 233 => 150 | n => n, fun | 17 => 2 | 18 => 6 | 19 => 7 | n => n⟩
theorem Tryd.laysM171 : Go.Proofs.LaysM.n171 Tryd.prog Tryd.laysM171_ren := {
  mixed := by kernel_rfl
  f129 := Tryd.func122.trans (congrArg some (by kernel_rfl))
  f171 := Tryd.func59.trans (congrArg some (by kernel_rfl))
  f243 := Tryd.func76.trans (congrArg some (by kernel_rfl))
  f246 := Tryd.func98.trans (congrArg some (by kernel_rfl))
  f283 := Tryd.func111.trans (congrArg some (by kernel_rfl))
  f284 := Tryd.func112.trans (congrArg some (by kernel_rfl))
  f285 := Tryd.func113.trans (congrArg some (by kernel_rfl))
  f286 := Tryd.func114.trans (congrArg some (by kernel_rfl))
  f317 := Tryd.func121.trans (congrArg some (by kernel_rfl))
  f318 := Tryd.func123.trans (congrArg some (by kernel_rfl))
  f319 := Tryd.func124.trans (congrArg some (by kernel_rfl))
  f320 := Tryd.func125.trans (congrArg some (by kernel_rfl))
  f337 := Tryd.func130.trans (congrArg some (by kernel_rfl))
  f338 := Tryd.func131.trans (congrArg some (by kernel_rfl))
  t0 := Tryd.underlying0
  a0 := Tryd.isAgg0
  z0 := Tryd.sizeOf0
  v0 := Tryd.zeroValue0
  t2 := Tryd.underlying2
  a2 := Tryd.isAgg2
  z2 := Tryd.sizeOf2
  v2 := Tryd.zeroValue2
  t3 := Tryd.underlying3
  a3 := Tryd.isAgg3
  z3 := Tryd.sizeOf3
  v3 := Tryd.zeroValue3
  t4 := Tryd.underlying4
  a4 := Tryd.isAgg4
  z4 := Tryd.sizeOf4
  v4 := Tryd.zeroValue4
  t5 := Tryd.underlying5
  a5 := Tryd.isAgg5
  z5 := Tryd.sizeOf5
  v5 := Tryd.zeroValue5
  t9 := Tryd.underlying9
  a9 := Tryd.isAgg9
  z9 := Tryd.sizeOf9
  v9 := Tryd.zeroValue9
  t20 := Tryd.underlying20
  a20 := Tryd.isAgg20
  z20 := Tryd.sizeOf20
  v20 := Tryd.zeroValue20
  t37 := Tryd.underlying46
  a37 := Tryd.isAgg46
  z37 := Tryd.sizeOf46
  v37 := Tryd.zeroValue46
  t46 := Tryd.underlying86
  a46 := Tryd.isAgg86
  z46 := Tryd.sizeOf86
  v46 := Tryd.zeroValue86
  t51 := Tryd.underlying48
  a51 := Tryd.isAgg48
  z51 := Tryd.sizeOf48
  v51 := Tryd.zeroValue48
  t53 := Tryd.underlying49
  a53 := Tryd.isAgg49
  z53 := Tryd.sizeOf49
  v53 := Tryd.zeroValue49
  t171 := Tryd.underlying125
  a171 := Tryd.isAgg125
  z171 := Tryd.sizeOf125
  v171 := Tryd.zeroValue125
  t173 := Tryd.underlying128
  a173 := Tryd.isAgg128
  z173 := Tryd.sizeOf128
  v173 := Tryd.zeroValue128
  t212 := Tryd.underlying138
  a212 := Tryd.isAgg138
  z212 := Tryd.sizeOf138
  v212 := Tryd.zeroValue138
  t213 := Tryd.underlying139
  a213 := Tryd.isAgg139
  z213 := Tryd.sizeOf139
  t232 := Tryd.underlying149
  a232 := Tryd.isAgg149
  z232 := Tryd.sizeOf149
  v232 := Tryd.zeroValue149
  t233 := Tryd.underlying150
  a233 := Tryd.isAgg150
  z233 := Tryd.sizeOf150
  v233 := Tryd.zeroValue150
  g17 := by kernel_rfl
  g18 := by kernel_rfl
  g19 := by kernel_rfl
  i0 := by kernel_rfl
  i2 := by kernel_rfl
  i3 := by kernel_rfl
  i4 := by kernel_rfl
  i5 := by kernel_rfl
  i9 := by kernel_rfl
  i20 := by kernel_rfl
  i37 := by kernel_rfl
  i46 := by kernel_rfl
  i51 := by kernel_rfl
  i53 := by kernel_rfl
  i171 := by kernel_rfl
  i173 := by kernel_rfl
  i212 := by kernel_rfl
  i232 := by kernel_rfl
  i233 := by kernel_rfl
  m17 := by kernel_rfl
  m18 := by kernel_rfl
  m19 := by kernel_rfl }
open Go.RowKit Go.Sort Go.Lib in
theorem Tryd.strconv_Itoa (n : Int) (h0 : -9223372036854775808 ≤ n) (h1 : n ≤ 9223372036854775807) (w : World) (htab : Lib.TabIs Tryd.prog w "internal/strconv.uint64pow10" .u64 Lib.pow10Tab) :
    Calls Tryd.prog 59 #[.int .i64 n] w fun e w' => e = .returned (.string ⟨(Lib.itoa n).toArray⟩) ∧ ∃ k os, w' = grow (w.drewN k) os := Any.strconv_Itoa Tryd.laysM171 n h0 h1 w htab
def Tryd.lays105_ren : Go.Shelf.Ren := ⟨fun | 105 => 61 | 212 => 77 | 99 => 78 | 165 => 79 | 166 => 60 | 170 => 80 | 169 => 62 | 263 => 99 | 264 => 100 | 206 => 101 | 240 => 75 | 241 => 102 | 276 => 97 | 277 => 115 | n => n, fun | 9 => 9 | 3 => 3 | 4 => 4 | 20 => 20 | 0 => 0 | 46 => 86 | 109 => 87 | 5 => 5 | 72 => 74 | 76 => 68 | 51 => 48 | 146 => 110 | 53 => 49 | 148 => 112 | 70 => 72 | 37 => 46 | 75 => 67 | 127 => 92 | 164 => 107 | 80 => 78 | n => n, fun | n => n⟩
theorem Tryd.lays105 : Go.Proofs.Lays.n105 Tryd.prog Tryd.lays105_ren := {
  mixed := by kernel_rfl
  f99 := Tryd.func78.trans (congrArg some (by kernel_rfl))
  f105 := Tryd.func61.trans (congrArg some (by kernel_rfl))
  f165 := Tryd.func79.trans (congrArg some (by kernel_rfl))
  f166 := Tryd.func60.trans (congrArg some (by kernel_rfl))
  f169 := Tryd.func62.trans (congrArg some (by kernel_rfl))
  f170 := Tryd.func80.trans (congrArg some (by kernel_rfl))
  f206 := Tryd.func101.trans (congrArg some (by kernel_rfl))
  f212 := Tryd.func77.trans (congrArg some (by kernel_rfl))
  f240 := Tryd.func75.trans (congrArg some (by kernel_rfl))
  f241 := Tryd.func102.trans (congrArg some (by kernel_rfl))
  f263 := Tryd.func99.trans (congrArg some (by kernel_rfl))
  f264 := Tryd.func100.trans (congrArg some (by kernel_rfl))
  f276 := Tryd.func97.trans (congrArg some (by kernel_rfl))
  f277 := Tryd.func115.trans (congrArg some (by kernel_rfl))
  t0 := Tryd.underlying0
  a0 := Tryd.isAgg0
  z0 := Tryd.sizeOf0
  v0 := Tryd.zeroValue0
  t3 := Tryd.underlying3
  a3 := Tryd.isAgg3
  z3 := Tryd.sizeOf3
  v3 := Tryd.zeroValue3
  t4 := Tryd.underlying4
  a4 := Tryd.isAgg4
  z4 := Tryd.sizeOf4
  v4 := Tryd.zeroValue4
  t5 := Tryd.underlying5
  a5 := Tryd.isAgg5
  z5 := Tryd.sizeOf5
  v5 := Tryd.zeroValue5
  t9 := Tryd.underlying9
  a9 := Tryd.isAgg9
  z9 := Tryd.sizeOf9
  v9 := Tryd.zeroValue9
  t20 := Tryd.underlying20
  a20 := Tryd.isAgg20
  z20 := Tryd.sizeOf20
  v20 := Tryd.zeroValue20
  t37 := Tryd.underlying46
  a37 := Tryd.isAgg46
  z37 := Tryd.sizeOf46
  v37 := Tryd.zeroValue46
  t46 := Tryd.underlying86
  a46 := Tryd.isAgg86
  z46 := Tryd.sizeOf86
  v46 := Tryd.zeroValue86
  t51 := Tryd.underlying48
  a51 := Tryd.isAgg48
  z51 := Tryd.sizeOf48
  v51 := Tryd.zeroValue48
  t53 := Tryd.underlying49
  a53 := Tryd.isAgg49
  z53 := Tryd.sizeOf49
  v53 := Tryd.zeroValue49
  t70 := Tryd.underlying72
  a70 := Tryd.isAgg72
  z70 := Tryd.sizeOf72
  v70 := Tryd.zeroValue72
  t72 := Tryd.underlying74
  a72 := Tryd.isAgg74
  z72 := Tryd.sizeOf74
  v72 := Tryd.zeroValue74
  t75 := Tryd.underlying67
  a75 := Tryd.isAgg67
  z75 := Tryd.sizeOf67
  v75 := Tryd.zeroValue67
  t76 := Tryd.underlying68
  a76 := Tryd.isAgg68
  z76 := Tryd.sizeOf68
  v76 := Tryd.zeroValue68
  t109 := Tryd.underlying87
  a109 := Tryd.isAgg87
  z109 := Tryd.sizeOf87
  v109 := Tryd.zeroValue87
  t127 := Tryd.underlying92
  a127 := Tryd.isAgg92
  z127 := Tryd.sizeOf92
  v127 := Tryd.zeroValue92
  t146 := Tryd.underlying110
  a146 := Tryd.isAgg110
  z146 := Tryd.sizeOf110
  v146 := Tryd.zeroValue110
  t148 := Tryd.underlying112
  a148 := Tryd.isAgg112
  z148 := Tryd.sizeOf112
  v148 := Tryd.zeroValue112
  t164 := Tryd.underlying107
  a164 := Tryd.isAgg107
  z164 := Tryd.sizeOf107
  v164 := Tryd.zeroValue107 }
theorem Tryd.Builder_Extra_105 : Builder.Extra Tryd.prog Tryd.lays105_ren := {
  sizeBuilder := by kernel_rfl
  liesBuilder := by kernel_rfl
  t5 := Tryd.underlying5
  a5 := Tryd.isAgg5
  z5 := Tryd.sizeOf5
  v5 := Tryd.zeroValue5
  infoByte := by kernel_rfl
  cellsByte := by kernel_rfl
  sizeByte := by kernel_rfl
  neB5 := by decide }
open Go.RowKit Go.Lib in
theorem Tryd.strings_Repeat (s : ByteArray) (c : Nat) (w : World) (hc : c ≤ 9223372036854775807) (hlen : s.size * c ≤ 140737488355328) :
    Calls Tryd.prog 61 #[.string s, .int .i64 c] w fun e w' => e = .returned (.string ⟨(Lib.repeatL s.data.toList c).toArray⟩) ∧ Below w.heap.size w w' := Any.strings_Repeat Tryd.lays105 Tryd.Builder_Extra_105 s c w hc hlen
end Go.Proofs
end
section
set_option linter.unusedVariables false
namespace Go.Proofs.YtflmioakfboanaaDoor.Ev
open Go Go.RowKit
theorem tabAt_ints {w : World} {g : Nat} {k : IntKind} {zs : List Int} (h : TabAt w (fun _ => True) g (zs.map fun z => FV.int k z)) : ∃ t z, w.heap[g]? = some (.cells (zs.map fun z => Value.int k z).toArray t z) := by
  obtain ⟨c, t, z, h1, h2, h3⟩ := h
  refine ⟨t, z, ?_⟩
  rw [h1]
  congr 2
  apply Array.ext
  · simpa using h2
  · intro i hi hi'
    have hi2 : i < zs.length := by simpa using hi'
    obtain ⟨v, hv, hr⟩ := h3 i (.int k zs[i]) (by simp [hi2])
    cases hr
    rw [Array.getElem?_eq_getElem hi] at hv
    simpa using hv
theorem tab_pow10 {w : World} (h : Glob w) : Lib.TabIs Tryd.prog w "internal/strconv.uint64pow10" .u64 Lib.pow10Tab := by
  have hg : Tryd.prog.globalNamed "internal/strconv.uint64pow10" = some 2 := by kernel_rfl
  have hm : (2, (List.range 20).map fun i => FV.int .u64 ((10 ^ i : Nat) : Int)) ∈ tabs := by simp [tabs]
  have h1 := h _ hm
  rw [show ((List.range 20).map fun i => FV.int .u64 ((10 ^ i : Nat) : Int)) = (Lib.pow10Tab.map fun z => FV.int .u64 z) by simp [Lib.pow10Tab]] at h1
  obtain ⟨t, z, h2⟩ := tabAt_ints h1
  unfold Lib.TabIs World.var?
  rw [hg]
  simp only [Option.bind_some, h2]
def itoaS (n : Int) : ByteArray := ⟨(Lib.itoa n).toArray⟩
theorem Itoa_fn (n : Int) (h0 : -9223372036854775808 ≤ n) (h1 : n ≤ 9223372036854775807) : Fn Tryd.prog 59 [.one (.fz (.int .i64 n))] [] (.one (.fz (.str (itoaS n)))) [] :=
  Fn.of_below [.int .i64 n] rfl rfl fun w hg => by
    refine (Tryd.strconv_Itoa n h0 h1 w (tab_pow10 hg)).mono ?_
    rintro e w' ⟨rfl, k, os, rfl⟩
    exact ⟨rfl, Lib.below_grow _ _ (Nat.le_refl _) _ _⟩
def repeatS (s : ByteArray) (c : Int) : ByteArray := ⟨(Lib.repeatL s.data.toList c.toNat).toArray⟩
theorem Repeat_fn (s : ByteArray) (c : Int) (h0 : 0 ≤ c) (hc : c ≤ 9223372036854775807) (hlen : s.size * c.toNat ≤ 140737488355328) : Fn Tryd.prog 61 [.one (.fz (.str s)), .one (.fz (.int .i64 c))] [] (.one (.fz (.str (repeatS s c)))) [] :=
  Fn.of_below [.str s, .int .i64 c] rfl rfl fun w hg => by
    obtain ⟨m, rfl⟩ := Int.eq_ofNat_of_zero_le h0
    refine (Tryd.strings_Repeat s m w (by omega) (by simpa using hlen)).mono ?_
    rintro e w' ⟨rfl, hb⟩
    exact ⟨rfl, hb⟩
end Go.Proofs.YtflmioakfboanaaDoor.Ev
end
section
set_option linter.unusedVariables false
set_option linter.unusedSimpArgs false
namespace Go.Proofs.YtflmioakfboanaaDoor.Ev
open Go
def tdig (n : Nat) : List Int := (digs 10 n).reverse.map (48 + ·)
def numT (s : Bool) (l : List Int) : List Int := if sndB s l = true then (if l.length = 0 then [48] else (if s = true then [45] else []) ++ tdig (val 1000000000 l).toNat) else []
theorem tdig_bytes (n : Nat) : Bytes (tdig n) := by
  intro x hx
  simp only [tdig, List.mem_map, List.mem_reverse] at hx
  obtain ⟨y, hy, rfl⟩ := hx
  have := digsT_lim n y hy
  omega
theorem tdig_len (n : Nat) : (tdig n).length = (digs 10 n).length := by simp [tdig]
theorem decDigits_tdig (u : Nat) (hu : 0 < u) : Lib.decDigits u = (tdig u).map fun n => UInt8.ofNat n.toNat := by
  induction u using Nat.strongRecOn with
  | _ u ih =>
    unfold tdig
    rw [Lib.decDigits, digs_pos (by omega) hu]
    split
    · rename_i h
      rw [Nat.div_eq_of_lt h, digs_zero, Nat.mod_eq_of_lt h]
      simp only [List.reverse_cons, List.reverse_nil, List.nil_append, List.map_cons, List.map_nil]
      congr 2
    · rename_i h
      rw [ih (u / 10) (by omega) (by omega)]
      simp only [List.reverse_cons, List.map_append, List.map_cons, List.map_nil]
      unfold tdig
      congr 3
theorem itoa_of (n : Nat) (hn : 0 < n) : itoaS n = bytesOf (tdig n) := by
  unfold itoaS bytesOf Lib.itoa
  rw [if_neg (by omega), Int.toNat_natCast, decDigits_tdig n hn]
theorem itoa_zero : itoaS 0 = bytesOf [48] := by decide +kernel
def nine (n : Nat) : List Int := digs 10 n ++ List.replicate (9 - (digs 10 n).length) 0
theorem nine_len {n : Nat} (h : n < 1000000000) : (nine n).length = 9 := by
  have : (digs 10 n).length ≤ 9 := (digs_len (by omega) _ _).2 (by omega)
  simp [nine]; omega
theorem nine_join {x v : Nat} (hx : x < 1000000000) (hv : 0 < v) : digs 10 (x + 1000000000 * v) = nine x ++ digs 10 v := by
  have hl := nine_len hx
  have hL : Lim 10 (nine x ++ digs 10 v) := ((digsT_lim x).append (Lim.replicate (by omega) _)).append (digsT_lim v)
  have hN : Norm (nine x ++ digs 10 v) := by
    intro h
    have hd : digs 10 v ≠ [] := fun e => by have := (digs_nil (B := 10) (by omega) v).1 e; omega
    rw [List.getLast_append_of_ne_nil _ hd]
    exact digsT_norm v hd
  have hV : val 10 (nine x ++ digs 10 v) = ((x + 1000000000 * v : Nat) : Int) := by
    rw [val_append, hl, digsT_val]
    have : val 10 (nine x) = x := by unfold nine; rw [val_append, val_replicate, digsT_val]; omega
    rw [this]
    have : (10 : Int) ^ 9 = 1000000000 := by decide
    rw [this]
    rw [Int.natCast_add, Int.natCast_mul]
    rfl
  exact (digs_eq' (B := 10) (by omega) hL hN hV).symm
theorem tdig_join {x v : Nat} (hx : x < 1000000000) (hv : 0 < v) : tdig (x + 1000000000 * v) = tdig v ++ (List.replicate (9 - (digs 10 x).length) 48 ++ tdig x) := by
  unfold tdig
  rw [nine_join hx hv]
  unfold nine
  simp only [List.reverse_append, List.reverse_replicate, List.map_append, List.map_replicate, Int.add_zero]
theorem repeat_zero (n : Nat) : repeatS (bytesOf [48]) n = bytesOf (List.replicate n 48) := by
  have : ∀ n : Nat, Lib.repeatL [48] n = (List.replicate n (48 : Int)).map fun n => UInt8.ofNat n.toNat := by
    intro n
    induction n with
    | zero => rfl
    | succ n ih => rw [List.replicate_succ, List.map_cons, Lib.repeatL, ih]; rfl
  unfold repeatS bytesOf
  rw [Int.toNat_natCast]
  exact congrArg ByteArray.mk (congrArg List.toArray (this n))
theorem text_loop (s : Bool) (l : List Int) (hl : l.length ≤ 64) (hL : Lim 1000000000 l) (hn : Norm l) (g : List Int) (hg : g.length ≤ 1) (hgb : Bytes g) (R : TV → List Ob → Prop) (hR : R (.one (.fz (.str (bytesOf (g ++ tdig (val 1000000000 l).toNat))))) []) :
    ∀ (k : Nat), k ≤ l.length → g ++ tdig (val 1000000000 (l.drop k)).toNat ≠ [] → num_Text_L0 R s (ints .u32 l) ((k : Int) - 1) (ints .u8 (g ++ tdig (val 1000000000 (l.drop k)).toNat)) := by
  have hlen : ∀ k, k ≤ l.length → (g ++ tdig (val 1000000000 (l.drop k)).toNat).length ≤ 100000 := by
    intro k hk
    have h1 : (digs 10 (val 1000000000 (l.drop k)).toNat).length ≤ 576 := by
      rw [digs_len (by omega)]
      have h0 := val_nonneg (B := 1000000000) (by omega) (hL.drop k)
      have h1 := val_lt (B := 1000000000) (by omega) (hL.drop k)
      have h2 : (1000000000 : Int) ^ (l.drop k).length ≤ 1000000000 ^ 64 := pow_mono (by omega) (by simp; omega)
      have h3 : (10 : Int) ^ 576 = 1000000000 ^ 64 := pow9 64
      have h4 : (((10 : Nat) ^ 576 : Nat) : Int) = 10 ^ 576 := cast_ten_pow 576
      omega
    simp [tdig_len]; omega
  intro k
  induction k with
  | zero =>
    intro _ hne
    rw [List.drop_zero] at hne ⊢
    have h0 := hlen 0 (by omega)
    rw [List.drop_zero] at h0
    refine num_Text_l0 ?_
    unfold num_Text_R0
    refine ⟨fun h => by simp at h, fun _ => ⟨_, _, stringU_ok _ hne (hgb.append (tdig_bytes _)) (by omega), hR⟩⟩
  | succ k ih =>
    intro hk hne
    have hx := hL.rd (by omega) k
    have va := val_drop 1000000000 l k (by omega)
    have hv0 := val_nonneg (B := 1000000000) (by omega) (hL.drop (k + 1))
    obtain ⟨x, hX⟩ : ∃ x : Nat, rd l k = x := ⟨(rd l k).toNat, by omega⟩
    obtain ⟨v, hV⟩ : ∃ v : Nat, val 1000000000 (l.drop (k + 1)) = v := ⟨(val 1000000000 (l.drop (k + 1))).toNat, by omega⟩
    rw [hX] at hx va
    rw [hV] at va hne ⊢
    have hl2 := hlen (k + 1) hk
    rw [hV] at hl2
    have hval : (val 1000000000 (l.drop k)).toNat = x + 1000000000 * v := by rw [va]; omega
    rw [hval] at ih
    rw [Int.toNat_natCast] at hne hl2 ⊢
    have hnx : (x + 1000000000 * v ≠ 0) := by
      intro e
      have hd : Norm (l.drop k) := by
        intro h0
        rw [List.getLast_drop]
        exact hn _
      have := (val_zero_iff (B := 1000000000) (by omega) (hL.drop k) hd).1 (by rw [va]; omega)
      have hlen0 : (l.drop k).length = 0 := by rw [this]; rfl
      simp at hlen0
      omega
    have hne2 : g ++ tdig (x + 1000000000 * v) ≠ [] := by
      intro e
      have e2 : tdig (x + 1000000000 * v) = [] := (List.append_eq_nil_iff.1 e).2
      have : (digs 10 (x + 1000000000 * v)).length = 0 := by rw [← tdig_len, e2]; rfl
      exact hnx ((digs_nil (B := 10) (by omega) _).1 (List.length_eq_zero_iff.1 this))
    have ih2 := ih (by omega) hne2
    refine num_Text_l0 ?_
    have e1 : (((k + 1 : Nat) : Int) - 1) = (k : Int) := by omega
    have e2 : IntKind.wrap .i64 ((k : Int) - 1) = (k : Int) - 1 := w64 (by omega) (by omega)
    have e3 : IntKind.wrap .i64 ((l.length : Int) - 1) = (l.length : Int) - 1 := w64 (by omega) (by omega)
    have e4 : IntKind.wrap .i64 ((x : Nat) : Int) = (x : Int) := w64 (by omega) (by omega)
    unfold num_Text_R0
    rw [e1, ints_len, e2, e3]
    refine ⟨fun _ => ⟨by omega, ?_⟩, fun h => by simp at h⟩
    rw [Int.toNat_natCast, ex_rd, hX, e4]
    refine ⟨by omega, _, Itoa_fn x (by omega) (by omega), ?_⟩
    rw [dec_t, dec_f]
    have hd9 : (digs 10 x).length ≤ 9 := (digs_len (by omega) _ _).2 (by omega)
    refine ⟨fun hlt => ?_, fun hge => ?_⟩
    ·
      have hv : 0 < v := by
        rcases Nat.eq_zero_or_pos v with h | h
        · subst h
          have hd : Norm (l.drop (k + 1)) := by
            intro h0
            rw [List.getLast_drop]
            exact hn _
          have := (val_zero_iff (B := 1000000000) (by omega) (hL.drop (k + 1)) hd).1 (by rw [hV]; rfl)
          have hlen0 : (l.drop (k + 1)).length = 0 := by rw [this]; rfl
          simp at hlen0
          omega
        · exact h
      have hxt : ∃ (m : Nat) (t : List Int), itoaS x = bytesOf t ∧ Bytes t ∧ t.length ≤ 9 ∧ m = 9 - t.length ∧ tdig (x + 1000000000 * v) = tdig v ++ List.replicate m 48 ++ t := by
        rcases Nat.eq_zero_or_pos x with h | h
        · subst h
          refine ⟨8, [48], itoa_zero, by intro y hy; simp at hy; omega, by simp, rfl, ?_⟩
          rw [tdig_join (by omega) hv, digs_zero]
          unfold tdig
          rw [digs_zero]
          simp [List.replicate_succ]
        · refine ⟨9 - (digs 10 x).length, tdig x, itoa_of x h, tdig_bytes x, by rw [tdig_len]; exact hd9, by rw [tdig_len], ?_⟩
          rw [tdig_join (by omega) hv, List.append_assoc]
      obtain ⟨m, t, t1, t2, t3, t4, t5⟩ := hxt
      have t6 : (itoaS x).size = t.length := by rw [t1, size_of]
      have e5 : IntKind.wrap .i64 (9 - (((itoaS x).size : Nat) : Int)) = (m : Int) := by rw [t6, w64 (by omega) (by omega)]; omega
      have e6 : (ByteArray.mk #[48]) = bytesOf [48] := rfl
      have hrep : Bytes (List.replicate m (48 : Int)) := by intro y hy; have := List.eq_of_mem_replicate hy; omega
      have w1 := writeStringU_ok (repeatS (bytesOf [48]) m) (g ++ tdig v) (by rw [repeat_zero, bs_of hrep]; simp; omega) (by omega)
      rw [repeat_zero, bs_of hrep] at w1
      have w2 := writeStringU_ok (itoaS x) (g ++ tdig v ++ List.replicate m 48) (by rw [t1, bs_of t2]; omega) (by simp only [List.length_append, List.length_replicate] at hl2 ⊢; omega)
      rw [t1, bs_of t2] at w2
      rw [e5, e6, t1]
      refine ⟨_, Repeat_fn (bytesOf [48]) m (by omega) (by omega) (by rw [size_of]; simp; omega), _, _, by rw [repeat_zero]; exact w1, _, _, w2, ?_⟩
      have e7 : g ++ tdig v ++ List.replicate m 48 ++ t = g ++ tdig (x + 1000000000 * v) := by rw [t5]; simp [List.append_assoc]
      rw [e7]
      exact ih2
    ·
      have hk2 : k + 1 = l.length := by omega
      have hv : v = 0 := by
        have : l.drop (k + 1) = [] := List.drop_of_length_le (by omega)
        rw [this] at hV
        simp [val] at hV
        omega
      subst hv
      have hx0 : 0 < x := by omega
      rw [Nat.mul_zero, Nat.add_zero] at ih2
      have t0 : tdig 0 = [] := by unfold tdig; rw [digs_zero]; rfl
      rw [t0, List.append_nil] at hne hl2 ⊢
      have w2 := writeStringU_ok (itoaS x) g (by rw [itoa_of x hx0, bs_of (tdig_bytes x), tdig_len]; omega) (by omega)
      rw [itoa_of x hx0, bs_of (tdig_bytes x)] at w2
      rw [itoa_of x hx0]
      exact ⟨_, _, w2, ih2⟩
theorem text_ok (s : Bool) (l : List Int) (hu : U32 l) (hl : l.length ≤ 100000) : Fn Tryd.prog 33 [fzN s l] [] (.one (.fz (.str (bytesOf (numT s l))))) [] := by
  refine num_Text_fn _ _ ?_
  unfold num_Text_H
  refine ⟨_, sound_ok s l (by omega), ?_⟩
  rw [not_t, not_f]
  unfold numT
  refine ⟨fun h => ?_, fun h => ?_⟩
  · rw [h]; exact ⟨rfl, rfl⟩
  · rw [if_pos h]
    have sn := (sndB_iff hu).1 h
    have n1 := sn.len
    rw [beq_t, beq_f, ints_len]
    refine ⟨fun h0 => ?_, fun h0 => ?_⟩
    · rw [if_pos (by omega)]; exact ⟨rfl, rfl⟩
    · have hpos : 0 < l.length := by omega
      rw [if_neg (by omega)]
      have e1 : IntKind.wrap .i64 ((l.length : Int) - 1) = ((l.length : Nat) : Int) - 1 := w64 (by omega) (by omega)
      refine ⟨fun hs => ⟨_, writeByteF_ok 45, ?_⟩, fun hs => ?_⟩
      · rw [e1]
        have g := text_loop s l n1 sn.lim sn.norm [45] (by simp) (by intro x hx; simp at hx; omega) (fun r' h' => r' = .one (.fz (.str (bytesOf ([45] ++ tdig (val 1000000000 l).toNat)))) ∧ h' = []) ⟨rfl, rfl⟩ l.length (Nat.le_refl _) (by simp)
        have t0 : tdig (val 1000000000 (l.drop l.length)).toNat = [] := by
          rw [List.drop_length]; unfold tdig; simp [val, digs_zero]
        rw [t0, List.append_nil] at g
        rw [if_pos hs]
        exact g
      ·
        have hk : l.length - 1 < l.length := by omega
        have hx := sn.lim.rd (by omega) (l.length - 1)
        have hx0 := norm_rd sn.norm hpos
        have va := val_drop 1000000000 l (l.length - 1) hk
        obtain ⟨x, hX⟩ : ∃ x : Nat, rd l (l.length - 1) = x := ⟨(rd l (l.length - 1)).toNat, by omega⟩
        rw [hX] at hx hx0 va
        have hdn : l.drop (l.length - 1 + 1) = [] := List.drop_of_length_le (by omega)
        rw [hdn] at va
        have hval : (val 1000000000 (l.drop (l.length - 1))).toNat = x := by rw [va]; simp [val]
        have hne : [] ++ tdig (val 1000000000 (l.drop (l.length - 1))).toNat ≠ [] := by
          rw [hval, List.nil_append]
          intro e
          have : (digs 10 x).length = 0 := by rw [← tdig_len, e]; rfl
          have := (digs_nil (B := 10) (by omega) _).1 (List.length_eq_zero_iff.1 this)
          omega
        have g := text_loop s l n1 sn.lim sn.norm [] (by simp) Bytes.nil (fun r' h' => r' = .one (.fz (.str (bytesOf ([] ++ tdig (val 1000000000 l).toNat)))) ∧ h' = []) ⟨rfl, rfl⟩ (l.length - 1) (by omega) hne
        rw [hval, List.nil_append] at g
        have hd9 : (digs 10 x).length ≤ 9 := (digs_len (by omega) _ _).2 (by omega)
        have w2 := writeStringF_ok (itoaS x) (by rw [itoa_of x (by omega), bs_of (tdig_bytes x), tdig_len]; omega)
        rw [itoa_of x (by omega), bs_of (tdig_bytes x)] at w2
        have e2 : IntKind.wrap .i64 ((l.length : Int) - 1) = ((l.length - 1 : Nat) : Int) := by rw [e1]; omega
        have e3 : IntKind.wrap .i64 (((l.length - 1 : Nat) : Int) - 1) = ((l.length - 1 : Nat) : Int) - 1 := w64 (by omega) (by omega)
        have e4 : IntKind.wrap .i64 ((x : Nat) : Int) = (x : Int) := w64 (by omega) (by omega)
        rw [if_neg (by simp [hs])]
        refine num_Text_l1 ?_
        unfold num_Text_R1
        rw [ints_len, e2, e3]
        refine ⟨fun _ => ⟨by omega, ?_⟩, fun h => by simp at h⟩
        rw [Int.toNat_natCast, ex_rd, hX, e4]
        refine ⟨by omega, _, Itoa_fn x (by omega) (by omega), fun h => by simp at h, fun _ => ?_⟩
        rw [itoa_of x (by omega)]
        exact ⟨_, _, w2, g⟩
end Go.Proofs.YtflmioakfboanaaDoor.Ev
end
section
set_option linter.unusedVariables false
set_option maxRecDepth 100000
namespace Go.Proofs.YtflmioakfboanaaDoor.Ev
open Go
def law01_answers_lv : List Nat → Keep := lvOf []
def law01_answers_H (R : TV → List Ob → Prop)  : Prop :=
  (∃ b1 : Bool, (∃ es1 : List (List FV), ((Fn Tryd.prog 35 [(TV.one (AV.fz (FV.int .i64 (-1000000007))))] [] (TV.agg [(AV.fz (FV.bool b1)), (AV.fz (FV.sl 1 es1))]) []) ∧ (∃ s1 : ByteArray, ((Fn Tryd.prog 33 [(TV.agg [(AV.fz (FV.bool b1)), (AV.fz (FV.sl 1 es1))])] [] (TV.one (AV.fz (FV.str s1))) []) ∧ (R (TV.one (AV.fz (FV.bool ((ByteArray.toList s1) == (ByteArray.toList (ByteArray.mk #[45, 49, 48, 48, 48, 48, 48, 48, 48, 48, 55])))))) []))))))
theorem law01_answers_fn  {r : TV} {h : List Ob} (H : law01_answers_H (fun r' h' => r' = r ∧ h' = h) ) : Fn Tryd.prog 12 [] [] r h :=
  Fn.by_tr (M := (modeOf [] [])) (lv := law01_answers_lv) (own := none) (F := Tryd.f12) (by kernel_rfl) (by kernel_rfl) (by first | decide | simp) (by kernel_rfl) H
def law01_own_lv : List Nat → Keep := lvOf []
def law01_own_H (R : TV → List Ob → Prop) (x0 : Bool) (x1 : List (List FV)) : Prop :=
  (((((List.length ([] : List (List FV))) + (List.length x1)) * 4) ≤ 140737488355328) ∧ (R (TV.agg [(AV.fz (FV.bool x0)), (AV.fz (FV.sl 1 (([] : List (List FV)) ++ x1)))]) []))
theorem law01_own_fn (x0 : Bool) (x1 : List (List FV)) {r : TV} {h : List Ob} (H : law01_own_H (fun r' h' => r' = r ∧ h' = h) x0 x1) : Fn Tryd.prog 15 [(TV.agg [(AV.fz (FV.bool x0)), (AV.fz (FV.sl 1 x1))])] [] r h :=
  Fn.by_tr (M := (modeOf [] [])) (lv := law01_own_lv) (own := none) (F := Tryd.f15) (by kernel_rfl) (by kernel_rfl) (by first | decide | simp) (by kernel_rfl) H
end Go.Proofs.YtflmioakfboanaaDoor.Ev
end
section
set_option linter.unusedVariables false
set_option linter.unusedSimpArgs false
namespace Go.Proofs.YtflmioakfboanaaDoor.Ev
open Go
theorem Ty.inv_bool {P : Program} {t : TypeId} {fs : List FV} (h : Ty P t fs) (hu : P.underlying t = some .bool) : ∃ b, fs = [.bool b] := by
  cases h <;> simp_all
theorem Ty.inv_int {P : Program} {t : TypeId} {k : IntKind} {fs : List FV} (h : Ty P t fs) (hu : P.underlying t = some (.int k)) : ∃ n, fs = [.int k n] ∧ k.min ≤ n ∧ n ≤ k.max := by
  cases h <;> simp_all
theorem tyV_int {t : TypeId} {k : IntKind} {x : TV} (h : TyV Tryd.prog t x) (hu : Tryd.prog.underlying t = some (.int k)) : ∃ n, x = fzI k n ∧ k.min ≤ n ∧ n ≤ k.max := by
  rcases h with ⟨fs, rfl, h, ds, hd⟩ | ⟨f, rfl, h⟩
  · rw [hu] at hd; cases hd
  · obtain ⟨n, h, h1, h2⟩ := h.inv_int hu
    cases h
    exact ⟨n, rfl, h1, h2⟩
theorem tyV_bool {t : TypeId} {x : TV} (h : TyV Tryd.prog t x) (hu : Tryd.prog.underlying t = some .bool) : ∃ b, x = fzB b := by
  rcases h with ⟨fs, rfl, h, ds, hd⟩ | ⟨f, rfl, h⟩
  · rw [hu] at hd; cases hd
  · obtain ⟨n, h⟩ := h.inv_bool hu
    cases h
    exact ⟨n, rfl⟩
theorem answers_ok : Fn Tryd.prog 12 [] [] (fzB true) [] := by
  refine law01_answers_fn ?_
  unfold law01_answers_H
  have e1 : bigN (-1000000007) = true := rfl
  have e2 : bigL (-1000000007) = [7, 1] := by
    unfold bigL
    rw [show (-1000000007 : Int).natAbs = 1000000007 from rfl, digs_pos (by omega) (by omega), digs_pos (by omega) (by omega), show 1000000007 / 1000000000 / 1000000000 = 0 from rfl, digs_zero]
    rfl
  refine ⟨_, _, ofInt_ok _ (by omega) (by omega), _, text_ok _ _ ?_ ?_, ?_⟩
  · rw [e2]; intro x hx; simp at hx; omega
  · rw [e2]; simp
  · rw [e1, e2]
    have e3 : numT true [7, 1] = [45, 49, 48, 48, 48, 48, 48, 48, 48, 48, 55] := by
      have : sndB true [7, 1] = true := by decide
      unfold numT
      rw [if_pos this, if_neg (by decide)]
      have : (val 1000000000 [7, 1]).toNat = 1000000007 := by decide
      rw [this]
      unfold tdig
      have : digs 10 1000000007 = [7, 0, 0, 0, 0, 0, 0, 0, 0, 1] := by
        simp [digs_pos, digs_zero]
      rw [this]
      rfl
    rw [e3]
    exact ⟨by congr 4; decide +kernel, rfl⟩
theorem own_ok (s : Bool) (l : List Int) (hl : l.length * 4 ≤ 140737488355328) : Fn Tryd.prog 15 [fzN s l] [] (fzN s l) [] := by
  refine law01_own_fn _ _ ?_
  unfold law01_own_H
  rw [List.nil_append, ints_len]
  exact ⟨by simpa using hl, rfl, rfl⟩
theorem bigL_u32 (z : Int) : U32 (bigL z) := fun x hx => by have := bigL_lim z x hx; omega
theorem outL_len (z : Int) : (outL z).length ≤ 64 := by
  unfold outL
  split
  · simp
  · omega
end Go.Proofs.YtflmioakfboanaaDoor.Ev
end
section
set_option linter.unusedVariables false
set_option linter.unusedSimpArgs false
namespace Go.Proofs.YtflmioakfboanaaDoor.Ev
open Go
theorem sndB_big {z : Int} (h : z.natAbs < 1000000000 ^ 64) : sndB (bigN z) (bigL z) = true := (sndB_iff (bigL_u32 z)).2 (big_snd h)
theorem bigL_le {z : Int} (h : z.natAbs < 1000000000 ^ 64) : (bigL z).length ≤ 64 := (bigL_len z 64).2 h
section
variable {x y z : Int} (hx : x.natAbs < 1000000000 ^ 64) (hy : y.natAbs < 1000000000 ^ 64)
include hx hy
theorem add_big (h : x + y = z) : Fn Tryd.prog 18 [fzN (bigN x) (bigL x), fzN (bigN y) (bigL y)] [] (outT z) [] := by
  have := bigL_le hx
  have := bigL_le hy
  have e := add_ok (bigN x) (bigN y) (bigL x) (bigL y) (bigL_u32 _) (bigL_u32 _) (by omega) (by omega)
  rw [op2T_snd (by rw [sndB_big hx, sndB_big hy]; rfl), sv_big, sv_big, h] at e
  exact e
theorem mul_big (h : x * y = z) : Fn Tryd.prog 14 [fzN (bigN x) (bigL x), fzN (bigN y) (bigL y)] [] (outT z) [] := by
  have := bigL_le hx
  have := bigL_le hy
  have e := mul_ok (bigN x) (bigN y) (bigL x) (bigL y) (bigL_u32 _) (bigL_u32 _) (by omega) (by omega)
  rw [op2T_snd (by rw [sndB_big hx, sndB_big hy]; rfl), sv_big, sv_big, h] at e
  exact e
theorem dvOk_big (h0 : y ≠ 0) : dvOk (bigN x) (bigL x) (bigN y) (bigL y) = true := by
  unfold dvOk
  rw [sndB_big hx, sndB_big hy]
  simpa [bigL_nil] using h0
theorem divide_big (h0 : y ≠ 0) : Fn Tryd.prog 25 [fzN (bigN x) (bigL x), fzN (bigN y) (bigL y)] [] (tup3 (bigN (x.tdiv y)) (bigL (x.tdiv y)) (bigN (x.tmod y)) (bigL (x.tmod y)) 0) [] := by
  have := bigL_le hx
  have := bigL_le hy
  have e := divide_ok (bigN x) (bigN y) (bigL x) (bigL y) (bigL_u32 _) (bigL_u32 _) (by omega) (by omega)
  have hk := dvOk_big hx hy h0
  have e1 : dvQ (bigN x) (bigL x) (bigN y) (bigL y) = x.tdiv y := by unfold dvQ; rw [if_pos hk, sv_big, sv_big]
  have e2 : dvR (bigN x) (bigL x) (bigN y) (bigL y) = x.tmod y := by unfold dvR; rw [if_pos hk, sv_big, sv_big]
  have e3 : dvE (bigN x) (bigL x) (bigN y) (bigL y) = 0 := by unfold dvE; rw [if_pos hk]
  unfold divT at e
  rw [e1, e2, e3] at e
  exact e
end
theorem same_self (s : Bool) (l : List Int) (h : l.length ≤ 1000000) : Fn Tryd.prog 17 [fzN s l, fzN s l] [] (fzB true) [] := by
  have e := same_ok s s l l h
  rwa [decide_eq_true (show s = s ∧ l = l from ⟨rfl, rfl⟩)] at e
theorem own_big {x : Int} (hx : x.natAbs < 1000000000 ^ 64) : Fn Tryd.prog 15 [fzN (bigN x) (bigL x)] [] (fzN (bigN x) (bigL x)) [] := by
  have := bigL_le hx
  exact own_ok _ _ (by omega)
end Go.Proofs.YtflmioakfboanaaDoor.Ev
end
section
set_option linter.unusedVariables false
set_option maxRecDepth 100000
namespace Go.Proofs.YtflmioakfboanaaDoor.Ev
open Go
def law01_NumDoubles_lv : List Nat → Keep := lvOf [([0, 0, 1, 1, 1, 1, 1, 1, 1, 1], ⟨480, 0, [(0, 1)], false⟩), ([0, 1, 0, 1, 1, 1, 1, 1, 1, 1, 1, 1], ⟨8672, 0, [], false⟩)]
def law01_NumDoubles_S0 (times : Int) (o : Bool) (o1 : List (List FV)) (b2 : Bool) (es1 : List (List FV)) (b3 : Bool) (es2 : List (List FV)) : St := (St.mk [TV.und, TV.und, TV.und, TV.und, TV.und, (TV.one (AV.ptr 0 0 0 0)), (TV.one (AV.ptr 1 0 0 0)), (TV.one (AV.ptr 2 0 0 0)), (TV.one (AV.fz (FV.int .i64 times))), TV.und, TV.und, TV.und, TV.und, TV.und, TV.und, TV.und, TV.und, TV.und, TV.und, TV.und, TV.und, TV.und, TV.und, TV.und, TV.und, TV.und, TV.und, TV.und, TV.und, TV.und, TV.und, TV.und, TV.und, TV.und, TV.und, TV.und, TV.und, TV.und, TV.und, TV.und, TV.und, TV.und, TV.und, TV.und, TV.und, TV.und, TV.und, TV.und, TV.und, TV.und, TV.und, TV.und, TV.und, TV.und, TV.und, TV.und, TV.und, TV.und, TV.und, TV.und, TV.und, TV.und, TV.und, TV.und, TV.und, TV.und, TV.und, TV.und, TV.und, TV.und, TV.und, TV.und, TV.und, TV.und, TV.und, TV.und, TV.und, TV.und, TV.und, TV.und, TV.und, TV.und, TV.und, TV.und, TV.und, TV.und, TV.und, TV.und, TV.und, TV.und, TV.und, TV.und, TV.und, TV.und, TV.und, TV.und, TV.und, TV.und, TV.und, TV.und, TV.und] [(Ob.g 24 [(AV.fz (FV.bool o)), (AV.fz (FV.sl 1 o1))]), (Ob.g 24 [(AV.fz (FV.bool b2)), (AV.fz (FV.sl 1 es1))]), (Ob.g 24 [(AV.fz (FV.bool b3)), (AV.fz (FV.sl 1 es2))])])
def law01_NumDoubles_L0 (R : TV → List Ob → Prop) (times : Int) (o : Bool) (o1 : List (List FV)) (b2 : Bool) (es1 : List (List FV)) (b3 : Bool) (es2 : List (List FV)) : Prop := LoopAt Tryd.prog (modeOf [] []) law01_NumDoubles_lv Tryd.f7 none R [1, 1, 1, 1, 1, 1, 1, 1, 0, 0] (law01_NumDoubles_S0 times o o1 b2 es1 b3 es2)
def law01_NumDoubles_S1 (times1 : Int) (i : Int) (o3 : Bool) (o2 : List (List FV)) (b2 : Bool) (es1 : List (List FV)) (b3 : Bool) (es2 : List (List FV)) : St := (St.mk [TV.und, TV.und, TV.und, TV.und, TV.und, (TV.one (AV.ptr 0 0 0 0)), (TV.one (AV.ptr 1 0 0 0)), (TV.one (AV.ptr 2 0 0 0)), (TV.one (AV.fz (FV.int .i64 times1))), TV.und, TV.und, TV.und, TV.und, (TV.one (AV.fz (FV.int .i64 i))), TV.und, TV.und, TV.und, TV.und, TV.und, TV.und, TV.und, TV.und, TV.und, TV.und, TV.und, TV.und, TV.und, TV.und, TV.und, TV.und, TV.und, TV.und, TV.und, TV.und, TV.und, TV.und, TV.und, TV.und, TV.und, TV.und, TV.und, TV.und, TV.und, TV.und, TV.und, TV.und, TV.und, TV.und, TV.und, TV.und, TV.und, TV.und, TV.und, TV.und, TV.und, TV.und, TV.und, TV.und, TV.und, TV.und, TV.und, TV.und, TV.und, TV.und, TV.und, TV.und, TV.und, TV.und, TV.und, TV.und, TV.und, TV.und, TV.und, TV.und, TV.und, TV.und, TV.und, TV.und, TV.und, TV.und, TV.und, TV.und, TV.und, TV.und, TV.und, TV.und, TV.und, TV.und, TV.und, TV.und, TV.und, TV.und, TV.und, TV.und, TV.und, TV.und, TV.und, TV.und, TV.und, TV.und, TV.und] [(Ob.g 24 [(AV.fz (FV.bool o3)), (AV.fz (FV.sl 1 o2))]), (Ob.g 24 [(AV.fz (FV.bool b2)), (AV.fz (FV.sl 1 es1))]), (Ob.g 24 [(AV.fz (FV.bool b3)), (AV.fz (FV.sl 1 es2))])])
def law01_NumDoubles_L1 (R : TV → List Ob → Prop) (times1 : Int) (i : Int) (o3 : Bool) (o2 : List (List FV)) (b2 : Bool) (es1 : List (List FV)) (b3 : Bool) (es2 : List (List FV)) : Prop := LoopAt Tryd.prog (modeOf [] []) law01_NumDoubles_lv Tryd.f7 none R [1, 1, 1, 1, 1, 1, 1, 1, 1, 0, 1, 0] (law01_NumDoubles_S1 times1 i o3 o2 b2 es1 b3 es2)
def law01_NumDoubles_R0 (R : TV → List Ob → Prop) (times : Int) (o : Bool) (o1 : List (List FV)) (b2 : Bool) (es1 : List (List FV)) (b3 : Bool) (es2 : List (List FV)) : Prop :=
  ((((decide (times < 300)) = true) → (∃ b32 : Bool, (∃ es25 : List (List FV), ((Fn Tryd.prog 15 [(TV.agg [(AV.fz (FV.bool o)), (AV.fz (FV.sl 1 o1))])] [] (TV.agg [(AV.fz (FV.bool b32)), (AV.fz (FV.sl 1 es25))]) []) ∧ (∃ b33 : Bool, (∃ es26 : List (List FV), ((Fn Tryd.prog 15 [(TV.agg [(AV.fz (FV.bool o)), (AV.fz (FV.sl 1 o1))])] [] (TV.agg [(AV.fz (FV.bool b33)), (AV.fz (FV.sl 1 es26))]) []) ∧ (∃ b34 : Bool, (∃ es27 : List (List FV), (∃ n9 : Int, ((Fn Tryd.prog 18 [(TV.agg [(AV.fz (FV.bool b32)), (AV.fz (FV.sl 1 es25))]), (TV.agg [(AV.fz (FV.bool b33)), (AV.fz (FV.sl 1 es26))])] [] (TV.tup [(true, [(AV.fz (FV.bool b34)), (AV.fz (FV.sl 1 es27))]), (false, [(AV.fz (FV.int .i64 n9))])]) []) ∧ (∃ b35 : Bool, (∃ es28 : List (List FV), ((Fn Tryd.prog 15 [(TV.agg [(AV.fz (FV.bool o)), (AV.fz (FV.sl 1 o1))])] [] (TV.agg [(AV.fz (FV.bool b35)), (AV.fz (FV.sl 1 es28))]) []) ∧ (∃ b36 : Bool, (∃ es29 : List (List FV), (∃ n10 : Int, ((Fn Tryd.prog 14 [(TV.agg [(AV.fz (FV.bool b35)), (AV.fz (FV.sl 1 es28))]), (TV.agg [(AV.fz (FV.bool b3)), (AV.fz (FV.sl 1 es2))])] [] (TV.tup [(true, [(AV.fz (FV.bool b36)), (AV.fz (FV.sl 1 es29))]), (false, [(AV.fz (FV.int .i64 n10))])]) []) ∧ ((((n9 != n10) = true) → (R (TV.one (AV.fz (FV.bool false))) [])) ∧ (((n9 != n10) = false) → (∃ b37 : Bool, ((Fn Tryd.prog 17 [(TV.agg [(AV.fz (FV.bool b34)), (AV.fz (FV.sl 1 es27))]), (TV.agg [(AV.fz (FV.bool b36)), (AV.fz (FV.sl 1 es29))])] [] (TV.one (AV.fz (FV.bool b37))) []) ∧ ((((Bool.not b37) = true) → (R (TV.one (AV.fz (FV.bool false))) [])) ∧ (((Bool.not b37) = false) → ((((n9 != 0) = true) → ((((n9 != 6) = true) → (R (TV.one (AV.fz (FV.bool false))) [])) ∧ (((n9 != 6) = false) → (((((((List.length o1) : Nat) : Int) != 64) = true) → (R (TV.one (AV.fz (FV.bool false))) [])) ∧ ((((((List.length o1) : Nat) : Int) != 64) = false) → (law01_NumDoubles_L1 R times 0 o o1 b2 es1 b3 es2)))))) ∧ (((n9 != 0) = false) → (law01_NumDoubles_L0 R (IntKind.wrap .i64 (times + 1)) b34 es27 b2 es1 b3 es2))))))))))))))))))))))))))) ∧ (((decide (times < 300)) = false) → (law01_NumDoubles_L1 R times 0 o o1 b2 es1 b3 es2)))
theorem law01_NumDoubles_l0 {R : TV → List Ob → Prop} {times : Int} {o : Bool} {o1 : List (List FV)} {b2 : Bool} {es1 : List (List FV)} {b3 : Bool} {es2 : List (List FV)} (h : law01_NumDoubles_R0 R times o o1 b2 es1 b3 es2) : law01_NumDoubles_L0 R times o o1 b2 es1 b3 es2 :=
  LoopAt.by_tr (by kernel_rfl) (by kernel_rfl) h
def law01_NumDoubles_R1 (R : TV → List Ob → Prop) (times1 : Int) (i : Int) (o3 : Bool) (o2 : List (List FV)) (b2 : Bool) (es1 : List (List FV)) (b3 : Bool) (es2 : List (List FV)) : Prop :=
  ((((decide (i < times1)) = true) → (∃ b32 : Bool, (∃ es25 : List (List FV), ((Fn Tryd.prog 15 [(TV.agg [(AV.fz (FV.bool o3)), (AV.fz (FV.sl 1 o2))])] [] (TV.agg [(AV.fz (FV.bool b32)), (AV.fz (FV.sl 1 es25))]) []) ∧ (∃ b33 : Bool, (∃ es26 : List (List FV), (∃ b34 : Bool, (∃ es27 : List (List FV), (∃ n9 : Int, ((Fn Tryd.prog 25 [(TV.agg [(AV.fz (FV.bool b32)), (AV.fz (FV.sl 1 es25))]), (TV.agg [(AV.fz (FV.bool b3)), (AV.fz (FV.sl 1 es2))])] [] (TV.tup [(true, [(AV.fz (FV.bool b33)), (AV.fz (FV.sl 1 es26))]), (true, [(AV.fz (FV.bool b34)), (AV.fz (FV.sl 1 es27))]), (false, [(AV.fz (FV.int .i64 n9))])]) []) ∧ ((((n9 != 0) = true) → (R (TV.one (AV.fz (FV.bool false))) [])) ∧ (((n9 != 0) = false) → (((((((List.length es27) : Nat) : Int) != 0) = true) → (R (TV.one (AV.fz (FV.bool false))) [])) ∧ ((((((List.length es27) : Nat) : Int) != 0) = false) → (law01_NumDoubles_L1 R times1 (IntKind.wrap .i64 (i + 1)) b33 es26 b2 es1 b3 es2))))))))))))))) ∧ (((decide (i < times1)) = false) → ((((decide ((90 : Int) < times1)) = true) → (∃ b35 : Bool, ((Fn Tryd.prog 17 [(TV.agg [(AV.fz (FV.bool o3)), (AV.fz (FV.sl 1 o2))]), (TV.agg [(AV.fz (FV.bool b2)), (AV.fz (FV.sl 1 es1))])] [] (TV.one (AV.fz (FV.bool b35))) []) ∧ (R (TV.one (AV.fz (FV.bool b35))) [])))) ∧ (((decide ((90 : Int) < times1)) = false) → (R (TV.one (AV.fz (FV.bool false))) [])))))
theorem law01_NumDoubles_l1 {R : TV → List Ob → Prop} {times1 : Int} {i : Int} {o3 : Bool} {o2 : List (List FV)} {b2 : Bool} {es1 : List (List FV)} {b3 : Bool} {es2 : List (List FV)} (h : law01_NumDoubles_R1 R times1 i o3 o2 b2 es1 b3 es2) : law01_NumDoubles_L1 R times1 i o3 o2 b2 es1 b3 es2 :=
  LoopAt.by_tr (by kernel_rfl) (by kernel_rfl) h
def law01_NumDoubles_H (R : TV → List Ob → Prop) (n : Int) (neg : Bool) : Prop :=
  (∃ b32 : Bool, (∃ es25 : List (List FV), ((Fn Tryd.prog 29 [(TV.one (AV.fz (FV.int .i64 (IntKind.wrap .i64 ((IntKind.wrap .i64 n) + 1)))))] [] (TV.agg [(AV.fz (FV.bool b32)), (AV.fz (FV.sl 1 es25))]) []) ∧ ((((0 : Int) ≤ 60) ∧ (((60 : Int) ≤ 60) ∧ (((4 * 60) : Int) ≤ 281474976710656))) ∧ (((((List.length (List.replicate (Int.toNat 60) [(FV.int .u32 0)])) + (List.length es25)) * 4) ≤ 140737488355328) ∧ (∃ b33 : Bool, ((Fn Tryd.prog 12 [] [] (TV.one (AV.fz (FV.bool b33))) []) ∧ ((((Bool.not b33) = true) → (R (TV.one (AV.fz (FV.bool false))) [])) ∧ (((Bool.not b33) = false) → (∃ b34 : Bool, (∃ es26 : List (List FV), ((Fn Tryd.prog 15 [(TV.agg [(AV.fz (FV.bool neg)), (AV.fz (FV.sl 1 ((List.replicate (Int.toNat 60) [(FV.int .u32 0)]) ++ es25)))])] [] (TV.agg [(AV.fz (FV.bool b34)), (AV.fz (FV.sl 1 es26))]) []) ∧ (∃ b35 : Bool, (∃ es27 : List (List FV), ((Fn Tryd.prog 29 [(TV.one (AV.fz (FV.int .i64 2)))] [] (TV.agg [(AV.fz (FV.bool b35)), (AV.fz (FV.sl 1 es27))]) []) ∧ (law01_NumDoubles_L0 R 0 neg ((List.replicate (Int.toNat 60) [(FV.int .u32 0)]) ++ es25) b34 es26 b35 es27))))))))))))))))
theorem law01_NumDoubles_fn (n : Int) (neg : Bool) {r : TV} {h : List Ob} (H : law01_NumDoubles_H (fun r' h' => r' = r ∧ h' = h) n neg) : Fn Tryd.prog 7 [(TV.one (AV.fz (FV.int .u16 n))), (TV.one (AV.fz (FV.bool neg)))] [] r h :=
  Fn.by_tr (M := (modeOf [] [])) (lv := law01_NumDoubles_lv) (own := none) (F := Tryd.f7) (by kernel_rfl) (by kernel_rfl) (by first | decide | simp) (by kernel_rfl) H
end Go.Proofs.YtflmioakfboanaaDoor.Ev
end
section
set_option linter.unusedVariables false
set_option linter.unusedSimpArgs false
namespace Go.Proofs.YtflmioakfboanaaDoor.Ev
open Go
abbrev dbTrue : TV := .one (.fz (.bool true))
theorem doubles_l1 (R : TV → List Ob → Prop) (z : Int) (t : Nat) (ht : 90 < t) (ht2 : t ≤ 300) (hR : R dbTrue []) : ∀ d i : Nat, i + d = t → (z * 2 ^ d).natAbs < 1000000000 ^ 64 → law01_NumDoubles_L1 R t i (bigN (z * 2 ^ d)) (ints .u32 (bigL (z * 2 ^ d))) (bigN z) (ints .u32 (bigL z)) (bigN 2) (ints .u32 (bigL 2))
  | 0, i, h, hz => by
    refine law01_NumDoubles_l1 ?_
    unfold law01_NumDoubles_R1
    rw [Int.pow_zero, Int.mul_one] at hz ⊢
    have := bigL_le hz
    rw [dec_t, dec_f, dec_t, dec_f]
    exact ⟨fun h => by omega, fun _ => ⟨fun _ => ⟨_, same_self _ _ (by omega), hR⟩, fun h => by omega⟩⟩
  | d + 1, i, h, hz => by
    refine law01_NumDoubles_l1 ?_
    unfold law01_NumDoubles_R1
    have e1 : z * 2 ^ (d + 1) = (z * 2 ^ d) * 2 := by rw [Int.pow_succ, Int.mul_assoc]
    rw [e1] at hz ⊢
    have hq : (z * 2 ^ d * 2).tdiv 2 = z * 2 ^ d := Int.mul_tdiv_cancel _ (by omega)
    have hr : (z * 2 ^ d * 2).tmod 2 = 0 := Int.mul_tmod_left _ _
    have hd := divide_big hz (show (2 : Int).natAbs < 1000000000 ^ 64 by decide +kernel) (by omega)
    rw [hq, hr] at hd
    have hz' : (z * 2 ^ d).natAbs < 1000000000 ^ 64 := by
      generalize z * 2 ^ d = y at hz
      omega
    have e : IntKind.wrap .i64 ((i : Int) + 1) = ((i + 1 : Nat) : Int) := w64 (by omega) (by omega)
    rw [dec_t, dec_f]
    refine ⟨fun _ => ⟨_, _, own_big hz, _, _, _, _, _, hd, fun h => ?_, fun _ => ⟨fun h => ?_, fun _ => ?_⟩⟩, fun h => by omega⟩
    · cases h
    · rw [ints_len, bigL_zero] at h; simp at h
    · rw [e]
      exact doubles_l1 R z t ht ht2 hR d (i + 1) (by omega) hz'
set_option exponentiation.threshold 1000 in
theorem doubles_l0 (R : TV → List Ob → Prop) (z : Int) (h0 : 1000000000 ^ 60 ≤ z.natAbs) (h1 : z.natAbs ≤ 65536 * 1000000000 ^ 60) (hR : R dbTrue []) : ∀ d t : Nat, t + d = 300 → (z * 2 ^ t).natAbs < 1000000000 ^ 64 → law01_NumDoubles_L0 R t (bigN (z * 2 ^ t)) (ints .u32 (bigL (z * 2 ^ t))) (bigN z) (ints .u32 (bigL z)) (bigN 2) (ints .u32 (bigL 2))
  | 0, t, h, hz => by
    exfalso
    have : t = 300 := by omega
    subst this
    rw [Int.natAbs_mul, show ((2 : Int) ^ 300).natAbs = 2 ^ 300 by decide +kernel] at hz
    have h2 : 1000000000 ^ 60 * 2 ^ 300 ≤ z.natAbs * 2 ^ 300 := Nat.mul_le_mul_right _ h0
    have h3 : (1000000000 : Nat) ^ 64 ≤ 1000000000 ^ 60 * 2 ^ 300 := by decide +kernel
    omega
  | d + 1, t, h, hz => by
    refine law01_NumDoubles_l0 ?_
    unfold law01_NumDoubles_R0
    have e1 : z * 2 ^ (t + 1) = (z * 2 ^ t) * 2 := by rw [Int.pow_succ, Int.mul_assoc]
    have e2 : z * 2 ^ t + z * 2 ^ t = z * 2 ^ (t + 1) := by rw [e1]; omega
    have e : IntKind.wrap .i64 ((t : Int) + 1) = ((t + 1 : Nat) : Int) := w64 (by omega) (by omega)
    have hl := outL_len (z * 2 ^ (t + 1))
    rw [dec_t, dec_f]
    refine ⟨fun _ => ⟨_, _, own_big hz, _, _, own_big hz, _, _, _, add_big hz hz e2, _, _, own_big hz, _, _, _, mul_big hz (show (2 : Int).natAbs < 1000000000 ^ 64 by decide +kernel) e1.symm, ?_⟩, fun h => by omega⟩
    rw [bne_t, bne_f]
    refine ⟨fun h => absurd rfl h, fun _ => ⟨_, same_self _ _ (by omega), ⟨fun h => (by cases h), fun _ => ?_⟩⟩⟩
    by_cases hs : (z * 2 ^ (t + 1)).natAbs < 1000000000 ^ 64
    · obtain ⟨k1, k2, k3⟩ := outT_small hs
      rw [k1, k2, k3, e]
      exact ⟨fun h => (by cases h), fun _ => doubles_l0 R z h0 h1 hR d (t + 1) (by omega) hs⟩
    · have k3 : outE (z * 2 ^ (t + 1)) = 6 := by
        unfold outE
        have := bigL_len (z * 2 ^ (t + 1)) 64
        rw [if_pos (by omega)]
      rw [k3, ints_len]
      have l1 := bigL_le hz
      have l2 : ¬ (bigL (z * 2 ^ t)).length ≤ 63 := by
        rw [bigL_len]
        rw [e1] at hs
        have : (1000000000 : Nat) ^ 64 = 1000000000 ^ 63 * 1000000000 := Nat.pow_succ ..
        generalize z * 2 ^ t = y at hs ⊢
        omega
      have ht : 90 < t := by
        refine Nat.lt_of_not_le fun hle => hs ?_
        rw [Int.natAbs_mul, show ((2 : Int) ^ (t + 1)).natAbs = 2 ^ (t + 1) by rw [Int.natAbs_pow]; rfl]
        have p1 : 2 ^ (t + 1) ≤ 2 ^ 91 := Nat.pow_le_pow_right (by omega) (by omega)
        refine Nat.lt_of_le_of_lt (Nat.mul_le_mul h1 p1) ?_
        decide +kernel
      have l3 : (bigL (z * 2 ^ t)).length = 64 := by omega
      rw [l3, bne_t, bne_f]
      refine ⟨fun _ => ⟨fun h => (by cases h), fun _ => ⟨fun h => (by simp at h), fun _ => ?_⟩⟩, fun h => by cases h⟩
      exact doubles_l1 R z t ht (by omega) hR t 0 (by omega) hz
theorem law_NumDoubles (xs : List TV) (h : TyAll Tryd.prog [36, 4] xs) : Fn Tryd.prog 7 xs [] (.one (.fz (.bool true))) [] := by
  cases h with
  | cons h1 h =>
  cases h with
  | cons h2 h =>
  cases h
  obtain ⟨n, rfl, n0, n1⟩ := tyV_int h1 Tryd.underlying36
  obtain ⟨s, rfl⟩ := tyV_bool h2 Tryd.underlying4
  have n0 : 0 ≤ n := n0
  have n1 : n ≤ 65535 := n1
  refine law01_NumDoubles_fn _ _ ?_
  unfold law01_NumDoubles_H
  have ew : IntKind.wrap .i64 (IntKind.wrap .i64 n + 1) = n + 1 := by rw [w64 (n := n) (by omega) (by omega), w64 (by omega) (by omega)]
  rw [ew]
  have l1 : (bigL (n + 1)).length ≤ 1 := by rw [bigL_len]; omega
  obtain ⟨z, z1, z2, z3⟩ : ∃ z : Int, bigN z = s ∧ bigL z = List.replicate 60 0 ++ bigL (n + 1) ∧ z.natAbs = (n + 1).toNat * 1000000000 ^ 60 := by
    refine ⟨if s = true then - ((n + 1) * 1000000000 ^ 60) else (n + 1) * 1000000000 ^ 60, ?_, ?_, ?_⟩
    · have : 0 < (n + 1) * 1000000000 ^ 60 := Int.mul_pos (by omega) (by decide +kernel)
      unfold bigN
      generalize (n + 1) * 1000000000 ^ 60 = y at this ⊢
      cases s
      · exact decide_eq_false (show ¬ (if false = true then - y else y) < 0 by rw [if_neg (by decide)]; omega)
      · exact decide_eq_true (show (if true = true then - y else y) < 0 by rw [if_pos rfl]; omega)
    · have hv : (if s = true then -((n + 1) * 1000000000 ^ 60) else (n + 1) * 1000000000 ^ 60 : Int).natAbs = (n + 1).toNat * 1000000000 ^ 60 := by
        split
        · rw [Int.natAbs_neg, Int.natAbs_mul, Int.natAbs_pow]; congr 1; omega
        · rw [Int.natAbs_mul, Int.natAbs_pow]; congr 1; omega
      unfold bigL
      rw [hv]
      refine (digs_eq' (B := 1000000000) (by omega) (Lim.append (Lim.replicate (by omega) 60) (digs_lim (by omega) _)) ?_ ?_).symm
      · intro hne
        rw [List.getLast_append_of_ne_nil]
        · exact digs_norm (B := 1000000000) (by omega) _ _
        · rw [ne_eq, digs_nil (by omega)]; omega
      · rw [show (((1000000000 : Nat) : Int)) = 1000000000 from rfl, val_append, val_replicate, digsB_val, List.length_replicate]
        rw [Int.zero_add, Int.natCast_mul, Int.natCast_pow, Int.mul_comm]
        congr 1
        omega
    · split
      · rw [Int.natAbs_neg, Int.natAbs_mul, Int.natAbs_pow]; congr 1; omega
      · rw [Int.natAbs_mul, Int.natAbs_pow]; congr 1; omega
  have hz0 : 1000000000 ^ 60 ≤ z.natAbs := by
    rw [z3]
    exact Nat.le_mul_of_pos_left _ (by omega)
  have hz1 : z.natAbs ≤ 65536 * 1000000000 ^ 60 := by
    rw [z3]
    exact Nat.mul_le_mul_right _ (by omega)
  have hz : z.natAbs < 1000000000 ^ 64 := Nat.lt_of_le_of_lt hz1 (by decide +kernel)
  have er : List.replicate (Int.toNat 60) [FV.int .u32 0] ++ ints .u32 (bigL (n + 1)) = ints .u32 (bigL z) := by rw [z2, ← ints_app, ← ints_rep]; rfl
  refine ⟨_, _, rofInt_ok (n + 1) (by omega) (by omega), ?_⟩
  rw [er, ints_len]
  refine ⟨by omega, ?_, _, answers_ok, fun h => (by cases h), fun _ => ⟨_, _, by rw [← z1]; exact own_big hz, _, _, rofInt_ok 2 (by omega) (by omega), ?_⟩⟩
  · rw [List.length_replicate]
    have : Int.toNat 60 = 60 := rfl
    omega
  · have := doubles_l0 (fun r' h' => r' = .one (.fz (.bool true)) ∧ h' = []) z hz0 hz1 ⟨rfl, rfl⟩ 300 0 rfl (by rw [Int.pow_zero, Int.mul_one]; exact hz)
    rw [Int.pow_zero, Int.mul_one] at this
    rw [← z1]
    exact this
end Go.Proofs.YtflmioakfboanaaDoor.Ev
end
section
set_option linter.unusedVariables false
namespace Go.Proofs.YtflmioakfboanaaDoor.numDoubles
open Go.ChangeShapes Go.WideShapes Go.ChangeAt Go.RowKit Go.Joins
open Go.Proofs.YtflmioakfboanaaDoor.Ev (Ty TyAll TabAt Glob tabs closedB openedAll trodAll_below tabAt_ints_of tabAt_ifc_of law_NumDoubles)
theorem own : ownKnob Tryd.prog.godebug = none := by kernel_rfl
theorem laidOut : laidOutB Tryd.prog = true := by kernel_rfl
set_option maxRecDepth 100000 in
theorem door_met (os : Os) (args : Array Value) : laidMetH Tryd.prog Rows.numDoublesRow.laid ((World.doorLaid Tryd.prog 400 os).forCall (fun _ _ => 0) ⟨#[], args, []⟩).memory :=
  laidMetH_of_parts3 (fuel := 8) (laidMet_of_run' 8 (by kernel_rfl) (by kernel_rfl)) (by kernel_rfl) (by kernel_rfl)
set_option maxRecDepth 100000 in
theorem glob {W : World} (hL : laidMetH Tryd.prog Rows.numDoublesRow.laid W) : Glob W := by
  have hM : laidMet Tryd.prog Rows.numDoublesRow.laid W := Eq.mp (by kernel_rfl) hL
  intro x hx
  simp only [tabs, List.mem_cons, List.mem_nil_iff, or_false] at hx
  rcases hx with rfl
  · have h := tabAt_ints_of (n := "internal/strconv.uint64pow10") (k := .u64) (zs := (List.range 20).map fun i => ((10 ^ i : Nat) : Int)) hM (List.mem_of_getElem? (i := 2) (by kernel_rfl)) (g := 2) (t := 138) (by kernel_rfl) (by kernel_rfl) Tryd.underlying138 Tryd.underlying49 (by kernel_rfl) (by kernel_rfl)
    rw [List.map_map] at h
    exact h
set_option maxRecDepth 100000 in
theorem lifted (os : Os) (started : os.Started) (H : Type) (enc : TypeId × Value → H) :
    ReturnsInHanded {} Tryd.checked os 7 .any (fun w args => (Rows.numDoublesSpec.pre enc Tryd.prog Tryd.f7 Rows.numDoublesRow.domain false w args ∧ laidMetH Tryd.prog Rows.numDoublesRow.laid w) ∧ sizedMet enc Tryd.prog Tryd.f7 (OpenSpec.ofChange Rows.numDoublesSpec) false w args)
      (Rows.numDoublesSpec.post enc Tryd.prog Tryd.f7 false true false false) := by
  refine returnsInHanded_of_change_and (C := Tryd.checked) (X := fun w _ => laidMetH Tryd.prog Rows.numDoublesRow.laid w) (fun _ _ _ hh h => h.of_heap hh) own started (by kernel_rfl) Tryd.func7
    (ChangeSpec.witness_shaped (enc := enc) (C := Tryd.checked) (os := os) (X := fun w _ => laidMetH Tryd.prog Rows.numDoublesRow.laid w) false (World.doorLaid Tryd.prog 400 os) #[.int .u16 0, .bool false] 8 rfl (World.shaped_of_RefB (by kernel_rfl) (by kernel_rfl)) (by kernel_rfl) (by kernel_rfl) (by kernel_rfl) (door_met os _)) ?_
  intro W base args ds gs before hval0 hW hcnd hsz0 hL _
  have hsz : (DataW.weightsEach Tryd.prog (Tryd.f7.params.toList ++ Rows.numDoublesSpec.plain.varTypes Tryd.prog) (ds ++ gs)).all (· ≤ reachBytes) = true := hsz0
  have hval : ∀ (j : Nat) t v, Tryd.f7.params[j]? = some t → args[j]? = some v → Value.okWide Tryd.prog W .any base t v := hval0
  have hW' := hW
  obtain ⟨p, q, hA0, hV, rfl, hfz, hnd⟩ := hW
  have hA : DataW.TrodAll enc Tryd.prog W 0 (fun _ => true) true Tryd.f7.params.toList args.toList ds p := hA0
  rw [Tryd.params7] at hA hval hsz
  obtain ⟨rfl, rfl⟩ := trodVars_none hV
  have hA2 := hA
  obtain ⟨v0, vs0, d0, ds0, p0, q0, hargs, rfl, rfl, h0_, r0⟩ := trodAll_cons hA2
  obtain ⟨v1, vs1, d1, ds1, p1, q1, rfl, rfl, rfl, h1_, r1⟩ := trodAll_cons r0
  obtain ⟨rfl, rfl, rfl⟩ := trodAll_nil r1
  obtain ⟨xs, h1, h2, h3⟩ := openedAll (S := [36, 4]) (ts := [36, 4]) (by kernel_rfl) (by decide) (fun j t v ht hv => hval j t v (by simpa using ht) (by simpa using hv)) hA (fun m hm => by simpa using List.all_eq_true.1 hsz m hm)
  refine ((law_NumDoubles xs h1).door (glob hL) (by simpa using h2) (fun i x hx => by obtain ⟨v, hv, hr⟩ := h3 i x hx; exact ⟨v, by simpa using hv, hr⟩)).mono fun e W' ⟨he, bel⟩ => ?_
  subst he
  exact ⟨_, rfl, _, _, _, [], _, [], hW', trodAll_mk1 (shut_bool Tryd.underlying4 _), trodAll_below laidOut bel (ts := [36, 4]) (by decide +kernel) hA, rfl, bel.frame _, fun h => by cases h⟩
theorem over : Rows.numDoublesRow.holds Tryd.pinned (OpenSpec.ofChange Rows.numDoublesSpec) :=
  OpenClaim.holds_of_wide 7 Tryd.f7 rfl rfl rfl rfl rfl rfl rfl ⟨rfl, rfl, rfl, rfl, rfl⟩ rfl rfl rfl rfl rfl (by kernel_rfl) Tryd.func7 (by kernel_rfl)
    (of_decide_eq_true (by kernel_rfl)) (by unfold Func.isWrapper; first | (rw [if_pos (by decide +kernel)]; kernel_rfl) | (rw [if_neg (by decide +kernel)]; exact ⟨rfl, rfl⟩))
    (fun os started H enc _ => lifted os started H enc)
theorem proved : Rows.NumDoublesCardSaid :=
  Claim7.holds_tied_plain_at .later [] [.data, .data, .data] true (true, "c882deb6c08a6e4fc319056acccbaaa87bfe25e16c1c8d476e088865a2e3e750") true
    over (fun _ h => by cases h) (by kernel_rfl) (fun _ h => by cases h) numDoubles_row_tie rfl ⟨rfl, rfl⟩ (by kernel_rfl) rfl
    (fun f fn hf hfn => by
      obtain rfl : f = 7 := Option.some.inj ((show Tryd.prog.funcNamed "marginalia/marginalialaw01.NumDoubles" = some 7 by kernel_rfl).symm.trans hf) |>.symm
      obtain rfl : fn = Tryd.f7 := (Option.some.inj (Tryd.func7.symm.trans hfn)).symm
      exact ⟨by kernel_rfl, fun j t ht => by
        rw [Tryd.params7] at ht
        have hm : t ∈ [36, 4] := by simpa using Array.mem_of_getElem? ht
        have hall : ([36, 4].all fun u => !Tryd.prog.wantsStandIn u) = true := by kernel_rfl
        exact (show Tryd.prog.wantsStandIn t = false by simpa using List.all_eq_true.1 hall t hm)⟩)
    (by kernel_rfl)
end Go.Proofs.YtflmioakfboanaaDoor.numDoubles
namespace Go.Proofs.YtflmioakfboanaaDoor
theorem numDoubles_holds : Rows.NumDoublesCardSaid := numDoubles.proved
end Go.Proofs.YtflmioakfboanaaDoor
end
