/-
  Part of a claim: definitions and lemmas that its theorem leans on, packed by wip/tools/pack.py.
-/
import Derived.Test.YtljpbicmlcjpcaaGreatDoorZW5
import Derived.Test.YtljpbicmlcjpcaaGreatDoorTie
import Derived.Test.YtljpbicmlcjpcaaGreatDoorCards
import Derived.WalkKit
import Derived.ProofKit
import Derived.ShutString
import Derived.Lay
import Derived.Stop.Joined
import Derived.SevenTiedAt
set_option linter.unusedVariables false
set_option linter.unusedSimpArgs false
section
set_option linter.unusedVariables false
set_option maxRecDepth 100000
namespace Go.Proofs.YtljpbicmlcjpcaaGreatDoor.Ev
open Go
section
def slices_Equal_uint32_uint32_lv : List Nat → Keep := lvOf [([0, 1, 0, 1, 1], ⟨12291, 0, [], false, false⟩)]
def slices_Equal_uint32_uint32_S0 (s1 : LL) (s2 : LL) (i : Int) : St := (St.mk [(TV.one (AV.fz (FV.sl 1 s1))), (TV.one (AV.fz (FV.sl 1 s2))), TV.und, TV.und, TV.und, TV.und, TV.und, TV.und, TV.und, TV.und, TV.und, TV.und, (TV.one (AV.fz (FV.int .i64 (((List.length s1) : Nat) : Int)))), (TV.one (AV.fz (FV.int .i64 i))), TV.und, TV.und, TV.und, TV.und, TV.und, TV.und, TV.und, TV.und, TV.und, TV.und, TV.und, TV.und] [])
def slices_Equal_uint32_uint32_L0 (R : TV → List Ob → Prop) (s1 : LL) (s2 : LL) (i : Int) : Prop := LoopAt Tryz.prog (modeOf [] []) slices_Equal_uint32_uint32_lv Tryz.f104 none R [1, 1, 0, 1, 0] (slices_Equal_uint32_uint32_S0 s1 s2 i)
def slices_Equal_uint32_uint32_R0 (R : TV → List Ob → Prop) (s1 : List (List FV)) (s2 : List (List FV)) (i : Int) : Prop :=
  ((((decide (i < (((List.length s1) : Nat) : Int))) = true) → (((0 : Int) ≤ i) ∧ (∃ n4 : Int, (((s1)[(Int.toNat i)]? = (some [(FV.int .u32 n4)])) ∧ (((0 : Int) ≤ i) ∧ (∃ n5 : Int, (((s2)[(Int.toNat i)]? = (some [(FV.int .u32 n5)])) ∧ ((((n4 != n5) = true) → (R (TV.one (AV.fz (FV.bool false))) [])) ∧ (((n4 != n5) = false) → (slices_Equal_uint32_uint32_L0 R s1 s2 (IntKind.wrap .i64 (i + 1)))))))))))) ∧ (((decide (i < (((List.length s1) : Nat) : Int))) = false) → (R (TV.one (AV.fz (FV.bool true))) [])))
theorem slices_Equal_uint32_uint32_l0 {R : TV → List Ob → Prop} {s1 : LL} {s2 : LL} {i : Int} (h : slices_Equal_uint32_uint32_R0 R s1 s2 i) : slices_Equal_uint32_uint32_L0 R s1 s2 i :=
  LoopAt.by_tr (by kernel_rfl) (by kernel_rfl) h
def slices_Equal_uint32_uint32_H (R : TV → List Ob → Prop) (s1 : List (List FV)) (s2 : List (List FV)) : Prop :=
  (((((((List.length s1) : Nat) : Int) != (((List.length s2) : Nat) : Int)) = true) → (R (TV.one (AV.fz (FV.bool false))) [])) ∧ ((((((List.length s1) : Nat) : Int) != (((List.length s2) : Nat) : Int)) = false) → (slices_Equal_uint32_uint32_L0 R s1 s2 0)))
theorem slices_Equal_uint32_uint32_fn (s1 : LL) (s2 : LL) {r : TV} {h : List Ob} (H : slices_Equal_uint32_uint32_H (fun r' h' => r' = r ∧ h' = h) s1 s2) : Fn Tryz.prog 104 [(TV.one (AV.fz (FV.sl 1 s1))), (TV.one (AV.fz (FV.sl 1 s2)))] [] r h :=
  Fn.by_tr (M := (modeOf [] [])) (lv := slices_Equal_uint32_uint32_lv) (own := none) (F := Tryz.f104) (by kernel_rfl) (by kernel_rfl) (by first | decide | simp) (fun _ _ h => h) (by kernel_rfl) H
end
section
theorem rd_ints (k : IntKind) {l : List Int} {i : Nat} (h : i < l.length) : (ints k l)[i]? = some [.int k (rd l i)] := by simp [ints, rd_at l i h, h]
theorem eqI_loop (a b : List Int) (ha : a.length * 8 ≤ 140737488355328) (hlen : a.length = b.length) (R : TV → List Ob → Prop) (hR : R (fzB (decide (a = b))) []) : ∀ (d i : Nat), i + d = a.length → a.take i = b.take i → slices_Equal_int_int_L0 R (ints .i64 a) (ints .i64 b) i
  | 0, i, hi, h => by
    rw [List.take_of_length_le (by omega), List.take_of_length_le (by omega)] at h
    refine slices_Equal_int_int_l0 ?_
    unfold slices_Equal_int_int_R0
    rw [ints_len, dec_t, dec_f]
    exact ⟨fun h => by omega, fun _ => by simpa [h] using hR⟩
  | d + 1, i, hi, h => by
    refine slices_Equal_int_int_l0 ?_
    unfold slices_Equal_int_int_R0
    have e3 : IntKind.wrap .i64 ((i : Int) + 1) = ((i + 1 : Nat) : Int) := w64 (by omega) (by omega)
    rw [ints_len, dec_t, dec_f, e3]
    refine ⟨fun _ => ⟨by omega, _, rd_ints .i64 (l := a) (i := i) (by omega), by omega, _, rd_ints .i64 (l := b) (i := i) (by omega), ?_⟩, fun h => by omega⟩
    rw [bne_t, bne_f]
    refine ⟨fun hne => ?_, fun he => ?_⟩
    · have : ¬ a = b := fun e => hne (by rw [e])
      simpa [this] using hR
    · refine eqI_loop a b ha hlen R hR d (i + 1) (by omega) ?_
      rw [rd_at a i (by omega), rd_at b i (by omega)] at he
      rw [List.take_succ_eq_append_getElem (by omega), List.take_succ_eq_append_getElem (by omega), h, he]
theorem eqI_ok (a b : List Int) (ha : a.length * 8 ≤ 140737488355328) : Fn Tryz.prog 81 [fzS .i64 a, fzS .i64 b] [] (fzB (decide (a = b))) [] := by
  refine slices_Equal_int_int_fn _ _ ?_
  unfold slices_Equal_int_int_H
  rw [ints_len, ints_len, bne_t, bne_f]
  refine ⟨fun h2 => ?_, fun h2 => ?_⟩
  · have : ¬ a = b := fun e => h2 (by rw [e])
    rw [decide_eq_false this]
    exact ⟨rfl, rfl⟩
  · exact eqI_loop a b ha (by omega) _ ⟨rfl, rfl⟩ a.length 0 (by omega) (by simp)
theorem eqU_loop (a b : List Int) (ha : a.length * 4 ≤ 140737488355328) (hlen : a.length = b.length) (R : TV → List Ob → Prop) (hR : R (fzB (decide (a = b))) []) : ∀ (d i : Nat), i + d = a.length → a.take i = b.take i → slices_Equal_uint32_uint32_L0 R (ints .u32 a) (ints .u32 b) i
  | 0, i, hi, h => by
    rw [List.take_of_length_le (by omega), List.take_of_length_le (by omega)] at h
    refine slices_Equal_uint32_uint32_l0 ?_
    unfold slices_Equal_uint32_uint32_R0
    rw [ints_len, dec_t, dec_f]
    exact ⟨fun h => by omega, fun _ => by simpa [h] using hR⟩
  | d + 1, i, hi, h => by
    refine slices_Equal_uint32_uint32_l0 ?_
    unfold slices_Equal_uint32_uint32_R0
    have e3 : IntKind.wrap .i64 ((i : Int) + 1) = ((i + 1 : Nat) : Int) := w64 (by omega) (by omega)
    rw [ints_len, dec_t, dec_f, e3]
    refine ⟨fun _ => ⟨by omega, _, rd_ints .u32 (l := a) (i := i) (by omega), by omega, _, rd_ints .u32 (l := b) (i := i) (by omega), ?_⟩, fun h => by omega⟩
    rw [bne_t, bne_f]
    refine ⟨fun hne => ?_, fun he => ?_⟩
    · have : ¬ a = b := fun e => hne (by rw [e])
      simpa [this] using hR
    · refine eqU_loop a b ha hlen R hR d (i + 1) (by omega) ?_
      rw [rd_at a i (by omega), rd_at b i (by omega)] at he
      rw [List.take_succ_eq_append_getElem (by omega), List.take_succ_eq_append_getElem (by omega), h, he]
theorem eqU_ok (a b : List Int) (ha : a.length * 4 ≤ 140737488355328) : Fn Tryz.prog 104 [fzS .u32 a, fzS .u32 b] [] (fzB (decide (a = b))) [] := by
  refine slices_Equal_uint32_uint32_fn _ _ ?_
  unfold slices_Equal_uint32_uint32_H
  rw [ints_len, ints_len, bne_t, bne_f]
  refine ⟨fun h2 => ?_, fun h2 => ?_⟩
  · have : ¬ a = b := fun e => h2 (by rw [e])
    rw [decide_eq_false this]
    exact ⟨rfl, rfl⟩
  · exact eqU_loop a b ha (by omega) _ ⟨rfl, rfl⟩ a.length 0 (by omega) (by simp)
theorem wSame_ok (m u m' u' : List Int) (hm : All64 m) (hu : All64 u) : Fn Tryz.prog 103 [fzW m u, fzW m' u'] [] (fzB (decide (m = m') && decide (u = u'))) [] := by
  obtain ⟨R, hR, hRe⟩ := exR (fzB (decide (m = m') && decide (u = u')))
  refine wrap_Same_fn _ _ _ _ ?_
  rw [hRe]
  clear hRe
  unfold wrap_Same_H
  refine ⟨_, eqI_ok m m' hm.2, fun h => ⟨_, eqI_ok u u' hu.2, ?_⟩, fun h => ?_⟩
  · rw [h, Bool.true_and] at hR; exact hR
  · rw [h, Bool.false_and] at hR; exact hR
theorem eqAlike_loop (xs ys : List Sx) (hl : xs.length ≤ 1048576) (hxy : xs.length = ys.length)
    (hp : ∀ x ∈ xs, ∀ y, Fn Tryz.prog 73 [fzX x, fzX y] [] (fzB (x.exact y)) [])
    (R : TV → List Ob → Prop) (hR : R (fzB (Sx.exactL xs ys)) []) : ∀ (d j : Nat), j + d = xs.length → Sx.exactL xs ys = Sx.exactL (xs.drop j) (ys.drop j) →
      eqAlike_L0 R (Sx.rows xs) (Sx.rows ys) j
  | 0, j, hj, h => by
    refine eqAlike_l0 ?_
    unfold eqAlike_R0
    rw [srows_len, dec_t, dec_f]
    refine ⟨fun h => by omega, fun _ => ?_⟩
    rw [h, List.drop_of_length_le (by omega)] at hR
    simpa only [Sx.exactL] using hR
  | d + 1, j, hj, h => by
    have hF := hp xs[j] (List.getElem_mem _) (ys[j]'(by omega))
    have hr := srow_at (List.getElem?_eq_getElem (show j < xs.length by omega))
    have hr2 := srow_at (List.getElem?_eq_getElem (show j < ys.length by omega))
    have hd : xs.drop j = xs[j] :: xs.drop (j + 1) := List.drop_eq_getElem_cons (by omega)
    have hd2 : ys.drop j = ys[j]'(by omega) :: ys.drop (j + 1) := List.drop_eq_getElem_cons (by omega)
    rw [hd, hd2, exactL_cons] at h
    generalize xs[j] = y at hF hr h
    generalize ys[j]'(by omega) = z at hF hr2 h
    obtain ⟨k1, t1, n1, l1, ys1, a1, m1, u1⟩ := y
    obtain ⟨k2, t2, n2, l2, ys2, a2, m2, u2⟩ := z
    unfold fzX at hF
    simp only [Sx.row, List.map_cons, List.map_nil] at hF hr hr2
    refine eqAlike_l0 ?_
    unfold eqAlike_R0
    have e : IntKind.wrap .i64 ((j : Int) + 1) = ((j + 1 : Nat) : Int) := w64 (by omega) (by omega)
    rw [srows_len, dec_t, dec_f, e]
    refine ⟨fun _ => ⟨by omega, _, _, _, _, _, _, _, _, hr, by omega, _, _, _, _, _, _, _, _, hr2, _, hF, ?_⟩, fun h => by omega⟩
    rw [not_t, not_f]
    refine ⟨fun h1 => ?_, fun h1 => ?_⟩
    · rw [h, h1, Bool.false_and] at hR; exact hR
    · exact eqAlike_loop xs ys hl hxy hp R hR d (j + 1) (by omega) (by rw [h, h1, Bool.true_and])
theorem eqAlike_ok (xs ys : List Sx) (hl : xs.length ≤ 1048576) (hp : ∀ x ∈ xs, ∀ y, Fn Tryz.prog 73 [fzX x, fzX y] [] (fzB (x.exact y)) []) :
    Fn Tryz.prog 105 [.one (.fz (.sl 8 (Sx.rows xs))), .one (.fz (.sl 8 (Sx.rows ys))), .one (.fz (.fn 73 []))] [] (fzB (decide (xs.length = ys.length) && Sx.exactL xs ys)) [] := by
  obtain ⟨R, hR, hRe⟩ := exR (fzB (decide (xs.length = ys.length) && Sx.exactL xs ys))
  refine eqAlike_fn _ _ ?_
  rw [hRe]
  clear hRe
  unfold eqAlike_H
  rw [srows_len, srows_len, bne_t, bne_f]
  refine ⟨fun h => ?_, fun h => ?_⟩
  · rw [decide_eq_false (by omega), Bool.false_and] at hR; exact hR
  · rw [decide_eq_true (by omega), Bool.true_and] at hR
    exact eqAlike_loop xs ys hl (by omega) hp R hR xs.length 0 (by omega) rfl
mutual
theorem alike_ok : ∀ (x y : Sx), x.ok → Fn Tryz.prog 73 [fzX x, fzX y] [] (fzB (x.exact y)) []
  | .mk k t n l xs a m u, .mk k' t' n' l' ys a' m' u', hok => by
    unfold Sx.ok at hok
    obtain ⟨_, _, _, hl4, hxl, hxs, _, hm, hu⟩ := hok
    have hall := alike_all xs hxs
    have hEq := eqAlike_ok xs ys hxl hall
    obtain ⟨R, hR, hRe⟩ := exR (fzB ((Sx.mk k t n l xs a m u).exact (.mk k' t' n' l' ys a' m' u')))
    unfold fzX
    simp only [Sx.row, List.map_cons, List.map_nil]
    refine stx_alike_fn _ _ _ _ _ _ _ _ _ _ _ _ _ _ _ _ ?_
    rw [hRe]
    clear hRe
    unfold stx_alike_H
    unfold Sx.exact at hR
    have no : (decide (k = k') && (decide (t = t') && (decide (n = n' ∧ l = l') && (decide (m = m') && (decide (u = u') && (decide (xs.length = ys.length) && Sx.exactL xs ys)))))) = false → R (fzB false) [] := fun h => by rw [h] at hR; exact hR
    rw [str_eq, beq_t, beq_f]
    refine ⟨_, _, of_ok' k t n l xs a m u, _, _, of_ok' k' t' n' l' ys a' m' u', _, wSame_ok m u m' u' hm hu, fun h1 => ⟨fun h2 => ⟨fun h3 => ⟨fun h4 => ⟨_, eqU_ok l l' hl4, fun h5 => ⟨_, hEq, ?_⟩, fun h5 => no ?_⟩, fun h4 => no ?_⟩, fun h3 => no ?_⟩, fun h2 => no ?_⟩, fun h1 => no ?_⟩
    · have h4' : n = n' := by simpa using h4
      have h5' : l = l' := of_decide_eq_true h5
      rw [Bool.and_eq_true] at h1
      rw [decide_eq_true h2, h3, decide_eq_true (show n = n' ∧ l = l' from ⟨h4', h5'⟩), h1.1, h1.2] at hR
      exact hR
    · have h5' : ¬ l = l' := of_decide_eq_false h5
      rw [decide_eq_false (show ¬ (n = n' ∧ l = l') from fun h => h5' h.2)]
      simp
    · have h4' : ¬ n = n' := by simpa using h4
      rw [decide_eq_false (show ¬ (n = n' ∧ l = l') from fun h => h4' h.1)]
      simp
    · rw [h3]; simp
    · rw [decide_eq_false h2]; simp
    · rcases Bool.and_eq_false_iff.1 h1 with h | h <;> rw [h] <;> simp
theorem alike_all : ∀ (xs : List Sx), Sx.oks xs → ∀ x ∈ xs, ∀ y, Fn Tryz.prog 73 [fzX x, fzX y] [] (fzB (x.exact y)) []
  | [], hok => fun x hx => by cases hx
  | z :: xs, hok => fun x hx y => by
    unfold Sx.oks at hok
    have h1 := alike_ok z y hok.1
    have h2 := alike_all xs hok.2
    rcases List.mem_cons.1 hx with rfl | hx
    · exact h1
    · exact h2 x hx y
end
def sameB (x y : Sx) : Bool := x.snd && (y.snd && x.flV1.exact y.flV1)
theorem pushR_ok {x : Sx} (hx : x.ok) {M S : List Int} (hM : All64 M) (hS : All64 S) : (pushR x M S).ok := by
  unfold pushR
  split
  · exact pushV_ok hx hM hS
  · exact zero_ok
theorem openR_ok {x : Sx} (hx : x.ok) : x.openR.ok := by
  unfold Sx.openR
  split
  · exact openV_ok hx
  · exact zero_ok
mutual
theorem flV_ok : ∀ (x : Sx) (M S : List Int), x.ok → All64 M → All64 S → (x.flV M S).ok
  | .mk k t n l xs a m u, M, S, hx, hM, hS => by
    unfold Sx.ok at hx
    obtain ⟨h1, h2, h3, h4, h5, h6, h7, h8, h9⟩ := hx
    have q := flJ_ok xs h6
    unfold Sx.flV Sx.ok
    refine ⟨h1, h2, h3, h4, ?_, ?_, h7, ?_, ?_⟩
    · split
      · rw [flJ_map, List.length_map, List.length_map]; exact h5
      · rw [flO_map, List.length_map]; exact h5
    · split
      · exact q.1 M S hM hS
      · exact q.2
    · split
      · exact hM
      · exact all64_nil
    · split
      · exact hS
      · exact all64_nil
theorem flJ_ok : ∀ (xs : List Sx), Sx.oks xs → (∀ M S, All64 M → All64 S → Sx.oks (Sx.flJ xs M S)) ∧ Sx.oks (Sx.flO xs)
  | [], _ => by simp only [Sx.flJ, Sx.flO, Sx.oks]; exact ⟨fun _ _ _ _ => trivial, trivial⟩
  | x :: xs, h => by
    unfold Sx.oks at h
    have q := flJ_ok xs h.2
    have r := ok_ms h.1
    simp only [Sx.flJ, Sx.flO, Sx.oks]
    exact ⟨fun M S hM hS => ⟨flV_ok x _ _ h.1 (jo_all hM hS r.1 r.2).1 (jo_all hM hS r.1 r.2).2, q.1 M S hM hS⟩, flV_ok x _ _ h.1 r.1 r.2, q.2⟩
end
theorem flR_ok {x : Sx} (hx : x.ok) : x.flR.ok := by
  unfold Sx.flR
  split
  · exact flV_ok x _ _ hx (ok_ms hx).1 (ok_ms hx).2
  · exact zero_ok
theorem sSame_ok (x y : Sx) (hx : x.ok) (hy : y.ok) : Fn Tryz.prog 28 [fzX x, fzX y] [] (fzB (sameB x y)) [] := by
  have h1 := sFlat_ok x hx
  have h2 := sFlat_ok y hy
  have h3 := alike_ok x.flR y.flR (flR_ok hx)
  obtain ⟨R, hR, hRe⟩ := exR (fzB (sameB x y))
  have e1 : x.errE = 0 → x.snd = true := fun h => by unfold Sx.errE at h; split at h; assumption; omega
  have e2 : y.errE = 0 → y.snd = true := fun h => by unfold Sx.errE at h; split at h; assumption; omega
  have e3 : ¬ x.errE = 0 → x.snd = false := fun h => by unfold Sx.errE at h; split at h; omega; simp_all
  have e4 : ¬ y.errE = 0 → y.snd = false := fun h => by unfold Sx.errE at h; split at h; omega; simp_all
  have e5 : x.snd = true → x.flR = x.flV1 := fun h => by unfold Sx.flR; rw [if_pos h]
  have e6 : y.snd = true → y.flR = y.flV1 := fun h => by unfold Sx.flR; rw [if_pos h]
  unfold sameB at hR hRe ⊢
  generalize x.errE = ex at *
  generalize y.errE = ey at *
  generalize x.snd = b1 at *
  generalize y.snd = b2 at *
  generalize x.flV1 = vx at *
  generalize y.flV1 = vy at *
  have hc : b1 = true → b2 = true → x.flR.exact y.flR = vx.exact vy := fun h h' => by rw [e5 h, e6 h']
  clear e5 e6
  generalize x.flR.exact y.flR = bb at *
  generalize x.flR = fx at *
  generalize y.flR = fy at *
  obtain ⟨k, t, n, l, xs, a, m, u⟩ := x
  obtain ⟨k', t', n', l', ys, a', m', u'⟩ := y
  obtain ⟨k1, t1, n1, l1, xs1, a1, m1, u1⟩ := fx
  obtain ⟨k2, t2, n2, l2, xs2, a2, m2, u2⟩ := fy
  unfold fzX at *
  simp only [Sx.row, List.map_cons, List.map_nil] at h1 h2 h3 ⊢
  refine stx_Same_fn _ _ _ _ _ _ _ _ _ _ _ _ _ _ _ _ ?_
  rw [hRe]
  clear hRe
  unfold stx_Same_H
  simp only [beq_t, beq_f]
  refine ⟨_, _, _, _, _, _, _, _, _, h1, _, _, _, _, _, _, _, _, _, h2, fun he => ⟨fun hf => ⟨_, h3, ?_⟩, fun hf => ?_⟩, fun he => ?_⟩
  · rw [e1 he, e2 hf, Bool.true_and, Bool.true_and, ← hc (e1 he) (e2 hf)] at hR; exact hR
  · rw [e4 hf, Bool.false_and, Bool.and_false] at hR; exact hR
  · rw [e3 he, Bool.false_and] at hR; exact hR
end
section
theorem jo_snd {m s n t : List Int} (h : jnE m s n t = 0) : wrSnd (joM m s n t) (joS m s n t) = true := by
  unfold joM joS
  rw [if_pos h, if_pos h]
  unfold jnE at h
  split at h
  · split at h
    · rename_i hl
      split at h
      · rename_i hw
        unfold wrSnd
        rw [hw, decide_eq_true hl.1, decide_eq_true hl.2]; rfl
      · omega
    · omega
  · omega
theorem jnE_snd {m s n t : List Int} (h : jnE m s n t = 0) : wrSnd m s = true ∧ wrSnd n t = true := by
  unfold jnE at h
  split at h
  · rename_i h2; exact Bool.and_eq_true_iff.1 h2
  · omega
theorem wrSnd_nil : wrSnd [] [] = true := by decide
theorem nil_jn (m u : List Int) : jnM [] [] m u = m ∧ jnS [] [] m u = u := by
  unfold jnM jnS
  have : ¬ cnP [] [] m u := by unfold cnP; simp
  rw [if_neg this, if_neg this]
  exact ⟨rfl, rfl⟩
theorem nil_jnE {m u : List Int} (h : wrSnd m u = true) : jnE [] [] m u = 0 := by
  unfold jnE
  rw [wrSnd_nil, h, (nil_jn m u).1, (nil_jn m u).2]
  unfold wrSnd at h
  simp only [Bool.and_eq_true, decide_eq_true_eq] at h
  rw [if_pos (show (true && true) = true from rfl), if_pos ⟨h.1, h.2.1⟩, if_pos h.2.2]
theorem nil_jo (m s n t : List Int) : joM [] [] (joM m s n t) (joS m s n t) = joM m s n t ∧ joS [] [] (joM m s n t) (joS m s n t) = joS m s n t := by
  by_cases h : jnE m s n t = 0
  · exact jnE_nil (nil_jnE (jo_snd h))
  · have h1 : joM m s n t = [] := by unfold joM; rw [if_neg h]
    have h2 : joS m s n t = [] := by unfold joS; rw [if_neg h]
    rw [h1, h2]
    exact jnE_nil (nil_jnE wrSnd_nil)
theorem flatS_with {y : Sx} {J K M S M' S' : List Int} (h1 : joM M S J K = joM M' S' y.ms y.us) (h2 : joS M S J K = joS M' S' y.ms y.us) : (y.withW J K).flatS M S = y.flatS M' S' := by
  obtain ⟨k, t, n, l, xs, a, m, u⟩ := y
  unfold Sx.withW Sx.flatS
  simp only [Sx.ms, Sx.us] at h1 h2
  rw [h1, h2]
theorem jnd_L {M S : List Int} : ∀ {xs : List Sx}, Sx.jndL xs M S = true → ∀ y ∈ xs, y.jnd M S = true
  | [], _ => fun y hy => by cases hy
  | x :: xs, h => fun y hy => by
    simp only [Sx.jndL, Bool.and_eq_true] at h
    rcases List.mem_cons.1 hy with rfl | hy
    · exact h.1
    · exact jnd_L h.2 y hy
theorem jnd_push {x : Sx} {M S : List Int} (h : (pushV x M S).jnd [] [] = true) (hE : jnE M S x.ms x.us = 0) : x.jnd M S = true ∧ (pushV x M S).flatS [] [] = x.flatS M S := by
  refine ⟨?_, flatS_with (nil_jo M S x.ms x.us).1 (nil_jo M S x.ms x.us).2⟩
  unfold pushV at h
  have hn := nil_jo M S x.ms x.us
  obtain ⟨k, t, n, l, xs, a, m, u⟩ := x
  unfold Sx.withW Sx.jnd at h
  unfold Sx.jnd
  simp only [Sx.ms, Sx.us] at hE hn h
  rw [hE]
  rw [hn.1, hn.2, Bool.and_eq_true] at h
  rw [h.2]; rfl
theorem pushE_zero {x : Sx} {M S : List Int} (h : pushE x M S = 0) : x.snd = true ∧ wrSnd M S = true ∧ jnE M S x.ms x.us = 0 ∧ (pushV x M S).snd = true := by
  unfold pushE at h
  split at h
  · rename_i h1
    split at h
    · rename_i h2
      split at h
      · rename_i h3
        split at h
        · rename_i h4; exact ⟨h1, h2, h3, h4⟩
        · omega
      · rename_i h3; exact absurd h h3
    · omega
  · omega
end
section
theorem rd_mem {l : List Int} {i : Nat} (h : i < l.length) : rd l i ∈ l := by rw [rd_at l i h]; exact List.getElem_mem _
theorem rd_appr (a W : List Int) (i : Nat) : rd (a ++ W) (a.length + i) = rd W i := by
  unfold rd
  simp only [List.getD_eq_getElem?_getD]
  rw [List.getElem?_append_right (by omega), Nat.add_sub_cancel_left]
theorem rd_appl {W : List Int} (n : List Int) {i : Nat} (h : i < W.length) : rd (W ++ n) i = rd W i := by
  unfold rd
  simp only [List.getD_eq_getElem?_getD]
  rw [List.getElem?_append_left h]
theorem mOk_tail : ∀ {xs : List Int} {j : Nat}, mOkAt (j + 1) xs = true → ∀ x ∈ xs, 1 ≤ x
  | [], _, _ => fun x hx => by cases hx
  | y :: ys, j, h => fun x hx => by
    simp only [mOkAt, Bool.and_eq_true, Bool.or_eq_true, decide_eq_true_eq] at h
    rcases List.mem_cons.1 hx with rfl | hx
    · rcases h.1 with h1 | h1
      · exact h1
      · omega
    · exact mOk_tail h.2 x hx
theorem mOk_drop {n : List Int} (h : mOkAt 0 n = true) : ∀ x ∈ n.drop 1, 1 ≤ x := by
  cases n with
  | nil => intro x hx; cases hx
  | cons y ys =>
    simp only [mOkAt, Bool.and_eq_true] at h
    exact mOk_tail h.2
theorem zer_no : ∀ {V : List Int}, zer V = 0 → ∀ x ∈ V, x ≠ 0
  | [], _ => fun x hx => by cases hx
  | y :: ys, h => fun x hx => by
    have hz := zer_le ys
    simp only [zer] at h
    split at h
    · omega
    · rename_i hy
      rcases List.mem_cons.1 hx with rfl | hx
      · exact hy
      · exact zer_no (by omega) x hx
theorem wr_parts {m s : List Int} (h : wrSnd m s = true) : mOkAt 0 m = true ∧ zer s = (m.length : Int) := by
  unfold wrSnd wrIn at h
  simp only [Bool.and_eq_true, beq_iff_eq] at h
  exact h.2.2.2
theorem asso {a s W V n t : List Int} (hno : ∀ x ∈ W, x ≠ -1) (hz : zer V = (W.length : Int)) (hn : mOkAt 0 n = true) :
    jnM a s (jnM W V n t) (jnS W V n t) = jnM (jnM a s W V) (jnS a s W V) n t ∧ jnS a s (jnM W V n t) (jnS W V n t) = jnS (jnM a s W V) (jnS a s W V) n t := by
  have c2 : ¬ cnP a s W V := by
    rintro ⟨_, _, h, _, _, h6, _⟩
    exact hno _ (rd_mem h) h6
  have e2 : jnM a s W V = a ++ W := by unfold jnM; rw [if_neg c2]
  have e2' : jnS a s W V = s ++ V := by unfold jnS; rw [if_neg c2]
  rw [e2, e2']
  have la : ∀ (p q : List Int), 0 < q.length → (p ++ q).length - 1 = p.length + (q.length - 1) := fun p q h => by rw [List.length_append]; omega
  by_cases c1 : cnP W V n t
  · have e1 : jnM W V n t = W.take (W.length - 1) ++ n.drop 1 := by unfold jnM; rw [if_pos c1]
    have e1' : jnS W V n t = V.take (V.length - 1) ++ t.drop 1 := by unfold jnS; rw [if_pos c1]
    rw [e1, e1']
    obtain ⟨h1, h2, h3, h4, h5, h6, h7, h8⟩ := c1
    have c4 : cnP (a ++ W) (s ++ V) n t := by
      refine ⟨by rw [List.length_append]; omega, by rw [List.length_append]; omega, h3, h4, ?_, h6, ?_, h8⟩
      · rw [la a W h1, rd_appr]; exact h5
      · rw [la s V h2, rd_appr]; exact h7
    have c3 : ¬ cnP a s (W.take (W.length - 1) ++ n.drop 1) (V.take (V.length - 1) ++ t.drop 1) := by
      rintro ⟨_, _, h, _, _, h6', _⟩
      have hm := rd_mem h
      rw [h6'] at hm
      rcases List.mem_append.1 hm with hm | hm
      · exact hno _ (List.mem_of_mem_take hm) rfl
      · have := mOk_drop hn _ hm; omega
    unfold jnM jnS
    rw [if_neg c3, if_neg c3, if_pos c4, if_pos c4, la a W h1, la s V h2, List.take_length_add_append, List.take_length_add_append, List.append_assoc, List.append_assoc]
    exact ⟨rfl, rfl⟩
  · have e1 : jnM W V n t = W ++ n := by unfold jnM; rw [if_neg c1]
    have e1' : jnS W V n t = V ++ t := by unfold jnS; rw [if_neg c1]
    rw [e1, e1']
    by_cases hV : V = []
    · subst hV
      have : W = [] := List.eq_nil_of_length_eq_zero (by simp only [zer] at hz; omega)
      subst this
      simp only [List.nil_append, List.append_nil]
      exact ⟨trivial, trivial⟩
    · have hV0 : 0 < V.length := List.length_pos_iff.2 hV
      have c3 : ¬ cnP a s (W ++ n) (V ++ t) := by
        rintro ⟨_, _, _, _, _, h6, _, h8⟩
        by_cases hW : W = []
        · subst hW
          rw [rd_appl t hV0] at h8
          exact zer_no (by simpa using hz) _ (rd_mem hV0) h8
        · have hW0 : 0 < W.length := List.length_pos_iff.2 hW
          rw [rd_appl n hW0] at h6
          exact hno _ (rd_mem hW0) h6
      have c4 : ¬ cnP (a ++ W) (s ++ V) n t := by
        rintro ⟨_, _, h3, h4, h5, h6, h7, h8⟩
        rw [la s V hV0, rd_appr] at h7
        by_cases hW : W = []
        · subst hW
          exact zer_no (by simpa using hz) _ (rd_mem (show V.length - 1 < V.length by omega)) h7
        · have hW0 : 0 < W.length := List.length_pos_iff.2 hW
          rw [la a W hW0, rd_appr] at h5
          exact c1 ⟨hW0, hV0, h3, h4, h5, h6, h7, h8⟩
      unfold jnM jnS
      rw [if_neg c3, if_neg c3, if_neg c4, if_neg c4, List.append_assoc, List.append_assoc]
      exact ⟨rfl, rfl⟩
theorem jo_of {m s n t : List Int} (h : jnE m s n t = 0) : joM m s n t = jnM m s n t ∧ joS m s n t = jnS m s n t := by
  unfold joM joS; rw [if_pos h, if_pos h]; exact ⟨rfl, rfl⟩
theorem jnE_intro {m s n t : List Int} (h1 : wrSnd m s = true) (h2 : wrSnd n t = true) (h3 : wrSnd (jnM m s n t) (jnS m s n t) = true) : jnE m s n t = 0 := by
  unfold wrSnd at h3
  simp only [Bool.and_eq_true, decide_eq_true_eq] at h3
  unfold jnE
  rw [h1, h2, if_pos (show (true && true) = true from rfl), if_pos ⟨h3.1, h3.2.1⟩, if_pos h3.2.2]
theorem asso1 {A S B T m u : List Int} (hno : ∀ x ∈ B, x ≠ -1) (E1 : jnE B T m u = 0) (E2 : jnE A S B T = 0) (E3 : jnE (joM A S B T) (joS A S B T) m u = 0) :
    jnE A S (joM B T m u) (joS B T m u) = 0 ∧ joM A S (joM B T m u) (joS B T m u) = joM (joM A S B T) (joS A S B T) m u ∧ joS A S (joM B T m u) (joS B T m u) = joS (joM A S B T) (joS A S B T) m u := by
  have s1 := jnE_snd E1
  have s2 := jnE_snd E2
  have j1 := jo_snd E1
  have j3 := jo_snd E3
  have r := asso (a := A) (s := S) (n := m) (t := u) hno (wr_parts s1.1).2 (wr_parts s1.2).1
  have o3 := jo_of E3
  have o1 := jo_of E1
  have o2 := jo_of E2
  rw [o3.1, o3.2] at j3 ⊢
  rw [o1.1, o1.2] at j1 ⊢
  rw [o2.1, o2.2] at j3 ⊢
  rw [← r.1, ← r.2] at j3 ⊢
  have E := jnE_intro s2.1 j1 j3
  exact ⟨E, (jo_of E).1, (jo_of E).2⟩
theorem noneg {B T m u : List Int} (hno : ∀ x ∈ B, x ≠ -1) (hB : B ≠ []) (E : jnE B T m u = 0) : ∀ x ∈ joM B T m u, x ≠ -1 := by
  have j := jo_snd E
  have s := jnE_snd E
  rw [(jo_of E).1, (jo_of E).2] at *
  intro x hx
  by_cases c : cnP B T m u
  · unfold jnM at hx
    rw [if_pos c] at hx
    rcases List.mem_append.1 hx with h | h
    · exact hno x (List.mem_of_mem_take h)
    · have := mOk_drop (wr_parts s.2).1 x h; omega
  · have e : jnM B T m u = B ++ m := by unfold jnM; rw [if_neg c]
    have hw := (wr_parts j).1
    rw [e] at hx hw
    cases B with
    | nil => exact absurd rfl hB
    | cons b bs =>
      rcases List.mem_cons.1 hx with rfl | h
      · exact hno _ (by simp)
      · have := mOk_drop hw x h; omega
theorem jo_nil {A S : List Int} (h : wrSnd A S = true) : jnE A S [] [] = 0 ∧ joM A S [] [] = A ∧ joS A S [] [] = S := by
  have c : ¬ cnP A S [] [] := by unfold cnP; simp
  have e1 : jnM A S [] [] = A := by unfold jnM; rw [if_neg c, List.append_nil]
  have e2 : jnS A S [] [] = S := by unfold jnS; rw [if_neg c, List.append_nil]
  have E := jnE_intro h wrSnd_nil (by rw [e1, e2]; exact h)
  exact ⟨E, by rw [(jo_of E).1, e1], by rw [(jo_of E).2, e2]⟩
theorem flat_mapM (f : Sx → Sx) (M S M' S' : List Int) : ∀ (xs : List Sx), (∀ y ∈ xs, (f y).flatS M S = y.flatS M' S') → Sx.flatL (xs.map f) M S = Sx.flatL xs M' S'
  | [], _ => rfl
  | x :: xs, hf => by
    simp only [Sx.flatL, List.map_cons]
    rw [hf x (by simp), flat_mapM f M S M' S' xs fun y hy => hf y (by simp [hy])]
theorem lazy_same {x p : Sx} {A S B T : List Int} (hno : ∀ v ∈ B, v ≠ -1) (hB : B ≠ []) (hE : jnE A S B T = 0) (hP : pushE x B T = 0)
    (hp : p = pushV x B T ∨ p = (pushV x B T).openV) (hq : pushE p A S = 0) (hr : pushE x (joM A S B T) (joS A S B T) = 0) :
    sameB (pushV p A S) (pushV x (joM A S B T) (joS A S B T)) = true := by
  obtain ⟨p1, p2, p3, p4⟩ := pushE_zero hP
  obtain ⟨q1, q2, q3, q4⟩ := pushE_zero hq
  obtain ⟨r1, r2, r3, r4⟩ := pushE_zero hr
  have jq := jnd_push (snd_jnd q4) q3
  have jr := jnd_push (snd_jnd r4) r3
  have as1 := asso1 hno p3 hE r3
  have key : p.flatS A S = x.flatS (joM A S B T) (joS A S B T) := by
    have one : (pushV x B T).flatS A S = x.flatS (joM A S B T) (joS A S B T) := flatS_with as1.2.1 as1.2.2
    rcases hp with rfl | rfl
    · exact one
    · have jp := jnd_push (snd_jnd p4) p3
      have hnoW := noneg hno hB p3
      have jq1 := jq.1
      have jr1 := jr.1
      have jp1 := jp.1
      clear jq jr jp
      obtain ⟨k, t, n, l, ys, a, m, u⟩ := x
      by_cases hk : k = 1 ∨ k = 2 ∨ k = 3
      · have h4 : ¬ k = 4 := by omega
        unfold pushV Sx.withW at *
        simp only [Sx.ms, Sx.us] at *
        rw [openV_t hk] at jq1 ⊢
        have hn := jo_nil q2
        unfold Sx.jnd at jq1 jr1 jp1
        rw [Bool.and_eq_true] at jq1 jr1 jp1
        rw [hn.2.1, hn.2.2] at jq1
        unfold Sx.flatS
        rw [hn.2.1, hn.2.2, if_neg h4, if_neg h4, if_neg h4, if_neg h4]
        rw [flat_mapM _ A S (joM (joM A S B T) (joS A S B T) m u) (joS (joM A S B T) (joS A S B T) m u) ys fun y hy => ?_]
        have g1 := jnd_E (jnd_L jp1.2 y hy)
        have g3 := jnd_E (jnd_L jr1.2 y hy)
        rw [← as1.2.1, ← as1.2.2] at g3
        have as2 := asso1 hnoW g1 as1.1 g3
        rw [as1.2.1, as1.2.2] at as2
        exact flatS_with as2.2.1 as2.2.2
      · unfold pushV at one ⊢
        unfold Sx.withW at one ⊢
        rw [openV_f hk]
        exact one
  unfold sameB
  rw [q4, r4, Bool.true_and, Bool.true_and, ← flat_snd q4, ← flat_snd r4, jq.2, jr.2, key, exact_self]
end
section
def law10_StxLazy_lv : List Nat → Keep := lvOf [([0, 1, 0, 1, 1], ⟨632, 0, [], false, false⟩)]
def law10_StxLazy_S0 (x0 : Int) (x1 : ByteArray) (x2 : Bool) (x3 : LL) (x4 : LL) (x5 : Int) (x6 : LL) (x7 : LL) (a0 : LL) (a1 : LL) (b0 : LL) (b1 : LL) (open_ : Bool) (i : Int) : St := (St.mk [TV.und, TV.und, TV.und, (TV.one (AV.fz (FV.bool open_))), (TV.one (AV.ptr 0 0 0 0)), (TV.one (AV.ptr 1 0 0 0)), (TV.one (AV.ptr 2 0 0 0)), TV.und, TV.und, (TV.one (AV.fz (FV.int .i64 i))), TV.und, TV.und, TV.und, TV.und, TV.und, TV.und, TV.und, TV.und, TV.und, TV.und, TV.und, TV.und, TV.und, TV.und, TV.und, TV.und, TV.und, TV.und, TV.und, TV.und, TV.und, TV.und, TV.und, TV.und, TV.und, TV.und, TV.und, TV.und, TV.und, TV.und, TV.und, TV.und, TV.und, TV.und, TV.und, TV.und, TV.und, TV.und, TV.und, TV.und, TV.und, TV.und, TV.und, TV.und, TV.und, TV.und, TV.und, TV.und, TV.und, TV.und, TV.und, TV.und, TV.und, TV.und, TV.und, TV.und, TV.und, TV.und, TV.und, TV.und, TV.und, TV.und, TV.und, TV.und, TV.und, TV.und, TV.und, TV.und, TV.und, TV.und, TV.und, TV.und, TV.und, TV.und, TV.und, TV.und, TV.und, TV.und, TV.und, TV.und, TV.und, TV.und, TV.und, TV.und, TV.und, TV.und, TV.und, TV.und, TV.und, TV.und, TV.und, TV.und, TV.und, TV.und, TV.und, TV.und, TV.und, TV.und, TV.und, TV.und, TV.und, TV.und, TV.und, TV.und, TV.und, TV.und, TV.und, TV.und, TV.und] [(Ob.g 28 [(AV.fz (FV.int .i64 x0)), (AV.fz (FV.str x1)), (AV.fz (FV.bool x2)), (AV.fz (FV.sl 1 x3)), (AV.fz (FV.sl 8 x4)), (AV.fz (FV.int .i64 x5)), (AV.fz (FV.sl 1 x6)), (AV.fz (FV.sl 1 x7))]), (Ob.g 30 [(AV.fz (FV.sl 1 a0)), (AV.fz (FV.sl 1 a1))]), (Ob.g 30 [(AV.fz (FV.sl 1 b0)), (AV.fz (FV.sl 1 b1))])])
def law10_StxLazy_L0 (R : TV → List Ob → Prop) (x0 : Int) (x1 : ByteArray) (x2 : Bool) (x3 : LL) (x4 : LL) (x5 : Int) (x6 : LL) (x7 : LL) (a0 : LL) (a1 : LL) (b0 : LL) (b1 : LL) (open_ : Bool) (i : Int) : Prop := LoopAt Tryz.prog (modeOf [] []) law10_StxLazy_lv Tryz.f6 none R [1, 1, 0, 1, 0] (law10_StxLazy_S0 x0 x1 x2 x3 x4 x5 x6 x7 a0 a1 b0 b1 open_ i)
def law10_StxLazy_R0 (R : TV → List Ob → Prop) (x0 : Int) (x1 : ByteArray) (x2 : Bool) (x3 : LL) (x4 : LL) (x5 : Int) (x6 : LL) (x7 : LL) (a0 : LL) (a1 : LL) (b0 : LL) (b1 : LL) (open_ : Bool) (i : Int) : Prop :=
  ((((decide (i < (((List.length b0) : Nat) : Int))) = true) → (((0 : Int) ≤ i) ∧ (∃ n52 : Int, (((b0)[(Int.toNat i)]? = (some [(FV.int .i64 n52)])) ∧ ((((n52 == (-1)) = true) → (R (TV.one (AV.fz (FV.bool true))) [])) ∧ (((n52 == (-1)) = false) → (law10_StxLazy_L0 R x0 x1 x2 x3 x4 x5 x6 x7 a0 a1 b0 b1 open_ (IntKind.wrap .i64 (i + 1))))))))) ∧ (((decide (i < (((List.length b0) : Nat) : Int))) = false) → (∃ es76 : LL, (∃ es77 : LL, (∃ n53 : Int, ((Fn Tryz.prog 32 [(TV.agg [(AV.fz (FV.sl 1 a0)), (AV.fz (FV.sl 1 a1))]), (TV.agg [(AV.fz (FV.sl 1 b0)), (AV.fz (FV.sl 1 b1))])] [] (TV.tup [(true, [(AV.fz (FV.sl 1 es76)), (AV.fz (FV.sl 1 es77))]), (false, [(AV.fz (FV.int .i64 n53))])]) []) ∧ (∃ n54 : Int, (∃ s18 : ByteArray, (∃ b32 : Bool, (∃ es78 : LL, (∃ es79 : LL, (∃ n55 : Int, (∃ es80 : LL, (∃ es81 : LL, ((Fn Tryz.prog 18 [(TV.agg [(AV.fz (FV.int .i64 x0)), (AV.fz (FV.str x1)), (AV.fz (FV.bool x2)), (AV.fz (FV.sl 1 x3)), (AV.fz (FV.sl 8 x4)), (AV.fz (FV.int .i64 x5)), (AV.fz (FV.sl 1 x6)), (AV.fz (FV.sl 1 x7))])] [] (TV.agg [(AV.fz (FV.int .i64 n54)), (AV.fz (FV.str s18)), (AV.fz (FV.bool b32)), (AV.fz (FV.sl 1 es78)), (AV.fz (FV.sl 8 es79)), (AV.fz (FV.int .i64 n55)), (AV.fz (FV.sl 1 es80)), (AV.fz (FV.sl 1 es81))]) []) ∧ (∃ n56 : Int, (∃ s19 : ByteArray, (∃ b33 : Bool, (∃ es82 : LL, (∃ es83 : LL, (∃ n57 : Int, (∃ es84 : LL, (∃ es85 : LL, (∃ n58 : Int, ((Fn Tryz.prog 17 [(TV.agg [(AV.fz (FV.int .i64 n54)), (AV.fz (FV.str s18)), (AV.fz (FV.bool b32)), (AV.fz (FV.sl 1 es78)), (AV.fz (FV.sl 8 es79)), (AV.fz (FV.int .i64 n55)), (AV.fz (FV.sl 1 es80)), (AV.fz (FV.sl 1 es81))]), (TV.agg [(AV.fz (FV.sl 1 b0)), (AV.fz (FV.sl 1 b1))])] [] (TV.tup [(true, [(AV.fz (FV.int .i64 n56)), (AV.fz (FV.str s19)), (AV.fz (FV.bool b33)), (AV.fz (FV.sl 1 es82)), (AV.fz (FV.sl 8 es83)), (AV.fz (FV.int .i64 n57)), (AV.fz (FV.sl 1 es84)), (AV.fz (FV.sl 1 es85))]), (false, [(AV.fz (FV.int .i64 n58))])]) []) ∧ ((((n53 != 0) = true) → (R (TV.one (AV.fz (FV.bool true))) [])) ∧ (((n53 != 0) = false) → ((((n58 != 0) = true) → (R (TV.one (AV.fz (FV.bool true))) [])) ∧ (((n58 != 0) = false) → (((open_ = true) → (∃ n59 : Int, (∃ s20 : ByteArray, (∃ b34 : Bool, (∃ es86 : LL, (∃ es87 : LL, (∃ n60 : Int, (∃ es88 : LL, (∃ es89 : LL, (∃ n61 : Int, ((Fn Tryz.prog 21 [(TV.agg [(AV.fz (FV.int .i64 n56)), (AV.fz (FV.str s19)), (AV.fz (FV.bool b33)), (AV.fz (FV.sl 1 es82)), (AV.fz (FV.sl 8 es83)), (AV.fz (FV.int .i64 n57)), (AV.fz (FV.sl 1 es84)), (AV.fz (FV.sl 1 es85))])] [] (TV.tup [(true, [(AV.fz (FV.int .i64 n59)), (AV.fz (FV.str s20)), (AV.fz (FV.bool b34)), (AV.fz (FV.sl 1 es86)), (AV.fz (FV.sl 8 es87)), (AV.fz (FV.int .i64 n60)), (AV.fz (FV.sl 1 es88)), (AV.fz (FV.sl 1 es89))]), (false, [(AV.fz (FV.int .i64 n61))])]) []) ∧ (∃ n62 : Int, (∃ s21 : ByteArray, (∃ b35 : Bool, (∃ es90 : LL, (∃ es91 : LL, (∃ n63 : Int, (∃ es92 : LL, (∃ es93 : LL, (∃ n64 : Int, ((Fn Tryz.prog 17 [(TV.agg [(AV.fz (FV.int .i64 n59)), (AV.fz (FV.str s20)), (AV.fz (FV.bool b34)), (AV.fz (FV.sl 1 es86)), (AV.fz (FV.sl 8 es87)), (AV.fz (FV.int .i64 n60)), (AV.fz (FV.sl 1 es88)), (AV.fz (FV.sl 1 es89))]), (TV.agg [(AV.fz (FV.sl 1 a0)), (AV.fz (FV.sl 1 a1))])] [] (TV.tup [(true, [(AV.fz (FV.int .i64 n62)), (AV.fz (FV.str s21)), (AV.fz (FV.bool b35)), (AV.fz (FV.sl 1 es90)), (AV.fz (FV.sl 8 es91)), (AV.fz (FV.int .i64 n63)), (AV.fz (FV.sl 1 es92)), (AV.fz (FV.sl 1 es93))]), (false, [(AV.fz (FV.int .i64 n64))])]) []) ∧ (∃ n65 : Int, (∃ s22 : ByteArray, (∃ b36 : Bool, (∃ es94 : LL, (∃ es95 : LL, (∃ n66 : Int, (∃ es96 : LL, (∃ es97 : LL, ((Fn Tryz.prog 18 [(TV.agg [(AV.fz (FV.int .i64 x0)), (AV.fz (FV.str x1)), (AV.fz (FV.bool x2)), (AV.fz (FV.sl 1 x3)), (AV.fz (FV.sl 8 x4)), (AV.fz (FV.int .i64 x5)), (AV.fz (FV.sl 1 x6)), (AV.fz (FV.sl 1 x7))])] [] (TV.agg [(AV.fz (FV.int .i64 n65)), (AV.fz (FV.str s22)), (AV.fz (FV.bool b36)), (AV.fz (FV.sl 1 es94)), (AV.fz (FV.sl 8 es95)), (AV.fz (FV.int .i64 n66)), (AV.fz (FV.sl 1 es96)), (AV.fz (FV.sl 1 es97))]) []) ∧ (∃ n67 : Int, (∃ s23 : ByteArray, (∃ b37 : Bool, (∃ es98 : LL, (∃ es99 : LL, (∃ n68 : Int, (∃ es100 : LL, (∃ es101 : LL, (∃ n69 : Int, ((Fn Tryz.prog 17 [(TV.agg [(AV.fz (FV.int .i64 n65)), (AV.fz (FV.str s22)), (AV.fz (FV.bool b36)), (AV.fz (FV.sl 1 es94)), (AV.fz (FV.sl 8 es95)), (AV.fz (FV.int .i64 n66)), (AV.fz (FV.sl 1 es96)), (AV.fz (FV.sl 1 es97))]), (TV.agg [(AV.fz (FV.sl 1 es76)), (AV.fz (FV.sl 1 es77))])] [] (TV.tup [(true, [(AV.fz (FV.int .i64 n67)), (AV.fz (FV.str s23)), (AV.fz (FV.bool b37)), (AV.fz (FV.sl 1 es98)), (AV.fz (FV.sl 8 es99)), (AV.fz (FV.int .i64 n68)), (AV.fz (FV.sl 1 es100)), (AV.fz (FV.sl 1 es101))]), (false, [(AV.fz (FV.int .i64 n69))])]) []) ∧ ((((n64 != 0) = true) → (R (TV.one (AV.fz (FV.bool true))) [])) ∧ (((n64 != 0) = false) → ((((n69 != 0) = true) → (R (TV.one (AV.fz (FV.bool true))) [])) ∧ (((n69 != 0) = false) → (((((((List.length b0) : Nat) : Int) == 0) = true) → (R (TV.one (AV.fz (FV.bool true))) [])) ∧ ((((((List.length b0) : Nat) : Int) == 0) = false) → (∃ b38 : Bool, ((Fn Tryz.prog 28 [(TV.agg [(AV.fz (FV.int .i64 n62)), (AV.fz (FV.str s21)), (AV.fz (FV.bool b35)), (AV.fz (FV.sl 1 es90)), (AV.fz (FV.sl 8 es91)), (AV.fz (FV.int .i64 n63)), (AV.fz (FV.sl 1 es92)), (AV.fz (FV.sl 1 es93))]), (TV.agg [(AV.fz (FV.int .i64 n67)), (AV.fz (FV.str s23)), (AV.fz (FV.bool b37)), (AV.fz (FV.sl 1 es98)), (AV.fz (FV.sl 8 es99)), (AV.fz (FV.int .i64 n68)), (AV.fz (FV.sl 1 es100)), (AV.fz (FV.sl 1 es101))])] [] (TV.one (AV.fz (FV.bool b38))) []) ∧ (R (TV.one (AV.fz (FV.bool b38))) []))))))))))))))))))))))))))))))))))))))))))))))))) ∧ ((open_ = false) → (∃ n70 : Int, (∃ s24 : ByteArray, (∃ b39 : Bool, (∃ es102 : LL, (∃ es103 : LL, (∃ n71 : Int, (∃ es104 : LL, (∃ es105 : LL, (∃ n72 : Int, ((Fn Tryz.prog 17 [(TV.agg [(AV.fz (FV.int .i64 n56)), (AV.fz (FV.str s19)), (AV.fz (FV.bool b33)), (AV.fz (FV.sl 1 es82)), (AV.fz (FV.sl 8 es83)), (AV.fz (FV.int .i64 n57)), (AV.fz (FV.sl 1 es84)), (AV.fz (FV.sl 1 es85))]), (TV.agg [(AV.fz (FV.sl 1 a0)), (AV.fz (FV.sl 1 a1))])] [] (TV.tup [(true, [(AV.fz (FV.int .i64 n70)), (AV.fz (FV.str s24)), (AV.fz (FV.bool b39)), (AV.fz (FV.sl 1 es102)), (AV.fz (FV.sl 8 es103)), (AV.fz (FV.int .i64 n71)), (AV.fz (FV.sl 1 es104)), (AV.fz (FV.sl 1 es105))]), (false, [(AV.fz (FV.int .i64 n72))])]) []) ∧ (∃ n73 : Int, (∃ s25 : ByteArray, (∃ b40 : Bool, (∃ es106 : LL, (∃ es107 : LL, (∃ n74 : Int, (∃ es108 : LL, (∃ es109 : LL, ((Fn Tryz.prog 18 [(TV.agg [(AV.fz (FV.int .i64 x0)), (AV.fz (FV.str x1)), (AV.fz (FV.bool x2)), (AV.fz (FV.sl 1 x3)), (AV.fz (FV.sl 8 x4)), (AV.fz (FV.int .i64 x5)), (AV.fz (FV.sl 1 x6)), (AV.fz (FV.sl 1 x7))])] [] (TV.agg [(AV.fz (FV.int .i64 n73)), (AV.fz (FV.str s25)), (AV.fz (FV.bool b40)), (AV.fz (FV.sl 1 es106)), (AV.fz (FV.sl 8 es107)), (AV.fz (FV.int .i64 n74)), (AV.fz (FV.sl 1 es108)), (AV.fz (FV.sl 1 es109))]) []) ∧ (∃ n75 : Int, (∃ s26 : ByteArray, (∃ b41 : Bool, (∃ es110 : LL, (∃ es111 : LL, (∃ n76 : Int, (∃ es112 : LL, (∃ es113 : LL, (∃ n77 : Int, ((Fn Tryz.prog 17 [(TV.agg [(AV.fz (FV.int .i64 n73)), (AV.fz (FV.str s25)), (AV.fz (FV.bool b40)), (AV.fz (FV.sl 1 es106)), (AV.fz (FV.sl 8 es107)), (AV.fz (FV.int .i64 n74)), (AV.fz (FV.sl 1 es108)), (AV.fz (FV.sl 1 es109))]), (TV.agg [(AV.fz (FV.sl 1 es76)), (AV.fz (FV.sl 1 es77))])] [] (TV.tup [(true, [(AV.fz (FV.int .i64 n75)), (AV.fz (FV.str s26)), (AV.fz (FV.bool b41)), (AV.fz (FV.sl 1 es110)), (AV.fz (FV.sl 8 es111)), (AV.fz (FV.int .i64 n76)), (AV.fz (FV.sl 1 es112)), (AV.fz (FV.sl 1 es113))]), (false, [(AV.fz (FV.int .i64 n77))])]) []) ∧ ((((n72 != 0) = true) → (R (TV.one (AV.fz (FV.bool true))) [])) ∧ (((n72 != 0) = false) → ((((n77 != 0) = true) → (R (TV.one (AV.fz (FV.bool true))) [])) ∧ (((n77 != 0) = false) → (((((((List.length b0) : Nat) : Int) == 0) = true) → (R (TV.one (AV.fz (FV.bool true))) [])) ∧ ((((((List.length b0) : Nat) : Int) == 0) = false) → (∃ b42 : Bool, ((Fn Tryz.prog 28 [(TV.agg [(AV.fz (FV.int .i64 n70)), (AV.fz (FV.str s24)), (AV.fz (FV.bool b39)), (AV.fz (FV.sl 1 es102)), (AV.fz (FV.sl 8 es103)), (AV.fz (FV.int .i64 n71)), (AV.fz (FV.sl 1 es104)), (AV.fz (FV.sl 1 es105))]), (TV.agg [(AV.fz (FV.int .i64 n75)), (AV.fz (FV.str s26)), (AV.fz (FV.bool b41)), (AV.fz (FV.sl 1 es110)), (AV.fz (FV.sl 8 es111)), (AV.fz (FV.int .i64 n76)), (AV.fz (FV.sl 1 es112)), (AV.fz (FV.sl 1 es113))])] [] (TV.one (AV.fz (FV.bool b42))) []) ∧ (R (TV.one (AV.fz (FV.bool b42))) [])))))))))))))))))))))))))))))))))))))))))))))))))))))))))))))))))))))
theorem law10_StxLazy_l0 {R : TV → List Ob → Prop} {x0 : Int} {x1 : ByteArray} {x2 : Bool} {x3 : LL} {x4 : LL} {x5 : Int} {x6 : LL} {x7 : LL} {a0 : LL} {a1 : LL} {b0 : LL} {b1 : LL} {open_ : Bool} {i : Int} (h : law10_StxLazy_R0 R x0 x1 x2 x3 x4 x5 x6 x7 a0 a1 b0 b1 open_ i) : law10_StxLazy_L0 R x0 x1 x2 x3 x4 x5 x6 x7 a0 a1 b0 b1 open_ i :=
  LoopAt.by_tr (by kernel_rfl) (by kernel_rfl) h
def law10_StxLazy_H (R : TV → List Ob → Prop) (x0 : Int) (x1 : ByteArray) (x2 : Bool) (x3 : LL) (x4 : LL) (x5 : Int) (x6 : LL) (x7 : LL) (a0 : LL) (a1 : LL) (b0 : LL) (b1 : LL) (open_ : Bool) : Prop :=
  (∃ b32 : Bool, ((Fn Tryz.prog 15 [] [] (TV.one (AV.fz (FV.bool b32))) []) ∧ ((((Bool.not b32) = true) → (∃ b33 : Bool, ((Fn Tryz.prog 15 [] [] (TV.one (AV.fz (FV.bool b33))) []) ∧ (R (TV.one (AV.fz (FV.bool b33))) [])))) ∧ (((Bool.not b32) = false) → (∃ b34 : Bool, ((Fn Tryz.prog 16 [(TV.agg [(AV.fz (FV.int .i64 x0)), (AV.fz (FV.str x1)), (AV.fz (FV.bool x2)), (AV.fz (FV.sl 1 x3)), (AV.fz (FV.sl 8 x4)), (AV.fz (FV.int .i64 x5)), (AV.fz (FV.sl 1 x6)), (AV.fz (FV.sl 1 x7))]), (TV.one (AV.fz (FV.int .i64 1)))] [] (TV.one (AV.fz (FV.bool b34))) []) ∧ ((((Bool.not b34) = true) → (∃ b35 : Bool, ((Fn Tryz.prog 15 [] [] (TV.one (AV.fz (FV.bool b35))) []) ∧ (R (TV.one (AV.fz (FV.bool b35))) [])))) ∧ (((Bool.not b34) = false) → (∃ b36 : Bool, ((Fn Tryz.prog 23 [(TV.agg [(AV.fz (FV.int .i64 x0)), (AV.fz (FV.str x1)), (AV.fz (FV.bool x2)), (AV.fz (FV.sl 1 x3)), (AV.fz (FV.sl 8 x4)), (AV.fz (FV.int .i64 x5)), (AV.fz (FV.sl 1 x6)), (AV.fz (FV.sl 1 x7))])] [] (TV.one (AV.fz (FV.bool b36))) []) ∧ ((((Bool.not b36) = true) → (∃ b37 : Bool, ((Fn Tryz.prog 15 [] [] (TV.one (AV.fz (FV.bool b37))) []) ∧ (R (TV.one (AV.fz (FV.bool b37))) [])))) ∧ (((Bool.not b36) = false) → ((((decide ((60 : Int) < (((List.length a1) : Nat) : Int))) = true) → (∃ b38 : Bool, ((Fn Tryz.prog 15 [] [] (TV.one (AV.fz (FV.bool b38))) []) ∧ (R (TV.one (AV.fz (FV.bool b38))) [])))) ∧ (((decide ((60 : Int) < (((List.length a1) : Nat) : Int))) = false) → ((((decide ((60 : Int) < (((List.length b1) : Nat) : Int))) = true) → (∃ b39 : Bool, ((Fn Tryz.prog 15 [] [] (TV.one (AV.fz (FV.bool b39))) []) ∧ (R (TV.one (AV.fz (FV.bool b39))) [])))) ∧ (((decide ((60 : Int) < (((List.length b1) : Nat) : Int))) = false) → ((((decide ((60 : Int) < (((List.length a0) : Nat) : Int))) = true) → (∃ b40 : Bool, ((Fn Tryz.prog 15 [] [] (TV.one (AV.fz (FV.bool b40))) []) ∧ (R (TV.one (AV.fz (FV.bool b40))) [])))) ∧ (((decide ((60 : Int) < (((List.length a0) : Nat) : Int))) = false) → ((((decide ((60 : Int) < (((List.length b0) : Nat) : Int))) = true) → (∃ b41 : Bool, ((Fn Tryz.prog 15 [] [] (TV.one (AV.fz (FV.bool b41))) []) ∧ (R (TV.one (AV.fz (FV.bool b41))) [])))) ∧ (((decide ((60 : Int) < (((List.length b0) : Nat) : Int))) = false) → (law10_StxLazy_L0 R x0 x1 x2 x3 x4 x5 x6 x7 a0 a1 b0 b1 open_ 0)))))))))))))))))))))
theorem law10_StxLazy_fn (x0 : Int) (x1 : ByteArray) (x2 : Bool) (x3 : LL) (x4 : LL) (x5 : Int) (x6 : LL) (x7 : LL) (a0 : LL) (a1 : LL) (b0 : LL) (b1 : LL) (open_ : Bool) {r : TV} {h : List Ob} (H : law10_StxLazy_H (fun r' h' => r' = r ∧ h' = h) x0 x1 x2 x3 x4 x5 x6 x7 a0 a1 b0 b1 open_) : Fn Tryz.prog 6 [(TV.agg [(AV.fz (FV.int .i64 x0)), (AV.fz (FV.str x1)), (AV.fz (FV.bool x2)), (AV.fz (FV.sl 1 x3)), (AV.fz (FV.sl 8 x4)), (AV.fz (FV.int .i64 x5)), (AV.fz (FV.sl 1 x6)), (AV.fz (FV.sl 1 x7))]), (TV.agg [(AV.fz (FV.sl 1 a0)), (AV.fz (FV.sl 1 a1))]), (TV.agg [(AV.fz (FV.sl 1 b0)), (AV.fz (FV.sl 1 b1))]), (TV.one (AV.fz (FV.bool open_)))] [] r h :=
  Fn.by_tr (M := (modeOf [] [])) (lv := law10_StxLazy_lv) (own := none) (F := Tryz.f6) (by kernel_rfl) (by kernel_rfl) (by first | decide | simp) (fun _ _ h => h) (by kernel_rfl) H
end
section
theorem ty_wrap {fs : List FV} (h : Ty Tryz.prog 30 fs) : ∃ m s, fs = [.sl 1 (ints .i64 m), .sl 1 (ints .i64 s)] ∧ All64 m ∧ All64 s := by
  obtain ⟨parts, rfl, h1, h2⟩ := h.inv_struct Tryz.underlying30
  obtain ⟨a, b, rfl⟩ := two_parts h1
  obtain ⟨m, rfl, hm⟩ := ty_i64s (h2 0 _ a rfl rfl)
  obtain ⟨s, rfl, hs⟩ := ty_i64s (h2 1 _ b rfl rfl)
  exact ⟨m, s, rfl, hm, hs⟩
theorem tyV_wrap {x : TV} (h : TyV Tryz.prog 30 x) : ∃ m s, x = fzW m s ∧ All64 m ∧ All64 s := by
  rcases h with ⟨fs, rfl, h, _⟩ | ⟨f, rfl, h⟩
  · obtain ⟨m, s, rfl, hm, hs⟩ := ty_wrap h
    exact ⟨m, s, rfl, hm, hs⟩
  · obtain ⟨m, s, h, _⟩ := ty_wrap h
    cases h
set_option maxHeartbeats 2000000 in
theorem lazy_loop (x : Sx) (hx : x.ok) (A S B T : List Int) (hA : All64 A) (hS : All64 S) (hBl : All64 B) (hT : All64 T) (o : Bool) (R : TV → List Ob → Prop) (hR : R (fzB true) []) :
    ∀ (d j : Nat), j + d = B.length → (∀ v ∈ B.take j, v ≠ -1) → ∀ k t n l ys a m s, x = .mk k t n l ys a m s → law10_StxLazy_L0 R k t n (ints .u32 l) (Sx.rows ys) a (ints .i64 m) (ints .i64 s) (ints .i64 A) (ints .i64 S) (ints .i64 B) (ints .i64 T) o j
  | 0, j, hj, hno, k, t, n, l, ys, a, m, s, hxe => by
    rw [List.take_of_length_le (by omega)] at hno
    have hJ := jo_all hA hS hBl hT
    have c1 := join_ok A S B T hA hS hBl hT
    have c2 := rOwn_ok x hx
    have c3 := sPush_ok x hx B T hBl hT
    have hp := pushR_ok hx hBl hT
    have c4 := sOpen_ok _ hp
    have c5 := sPush_ok _ (openR_ok hp) A S hA hS
    have c6 := sPush_ok x hx _ _ hJ.1 hJ.2
    have c7 := sPush_ok _ hp A S hA hS
    have d1 := sSame_ok _ _ (pushR_ok (openR_ok hp) hA hS) (pushR_ok hx hJ.1 hJ.2)
    have d2 := sSame_ok _ _ (pushR_ok hp hA hS) (pushR_ok hx hJ.1 hJ.2)
    have e1 : B ≠ [] → jnE A S B T = 0 → pushE x B T = 0 → pushE (pushR x B T).openR A S = 0 → pushE x (joM A S B T) (joS A S B T) = 0 → sameB (pushR (pushR x B T).openR A S) (pushR x (joM A S B T) (joS A S B T)) = true := fun h1 h2 h3 h4 h5 => by
      have r : pushR x B T = pushV x B T := by unfold pushR; rw [if_pos h3]
      rw [r] at h4 ⊢
      have ho : (pushV x B T).openR = (pushV x B T).openV := by unfold Sx.openR; rw [if_pos (pushE_zero h3).2.2.2]
      rw [ho] at h4 ⊢
      have := lazy_same hno h1 h2 h3 (.inr rfl) h4 h5
      unfold pushR
      rw [if_pos h4, if_pos h5]
      exact this
    have e2 : B ≠ [] → jnE A S B T = 0 → pushE x B T = 0 → pushE (pushR x B T) A S = 0 → pushE x (joM A S B T) (joS A S B T) = 0 → sameB (pushR (pushR x B T) A S) (pushR x (joM A S B T) (joS A S B T)) = true := fun h1 h2 h3 h4 h5 => by
      have r : pushR x B T = pushV x B T := by unfold pushR; rw [if_pos h3]
      rw [r] at h4 ⊢
      have := lazy_same hno h1 h2 h3 (.inl rfl) h4 h5
      unfold pushR
      rw [if_pos h4, if_pos h5]
      exact this
    have hB0 : (((B.length : Nat) : Int) ≠ 0) → B ≠ [] := fun h e => h (by rw [e]; rfl)
    generalize sameB (pushR (pushR x B T).openR A S) (pushR x (joM A S B T) (joS A S B T)) = b1 at *
    generalize sameB (pushR (pushR x B T) A S) (pushR x (joM A S B T) (joS A S B T)) = b2 at *
    generalize pushE (pushR x B T).openR A S = pe1 at *
    generalize pushE (pushR x B T) A S = pe2 at *
    generalize pushR (pushR x B T).openR A S = v1 at *
    generalize pushR (pushR x B T) A S = v2 at *
    generalize pushE x (joM A S B T) (joS A S B T) = pe3 at *
    generalize pushR x (joM A S B T) (joS A S B T) = v3 at *
    generalize (pushR x B T).errE = pe4 at *
    generalize (pushR x B T).openR = v4 at *
    generalize pushE x B T = pe5 at *
    generalize pushR x B T = v5 at *
    subst hxe
    obtain ⟨k1, t1, n1, l1, ys1, a1, m1, s1⟩ := v1
    obtain ⟨k2, t2, n2, l2, ys2, a2, m2, s2⟩ := v2
    obtain ⟨k3, t3, n3, l3, ys3, a3, m3, s3⟩ := v3
    obtain ⟨k4, t4, n4, l4, ys4, a4, m4, s4⟩ := v4
    obtain ⟨k5, t5, n5, l5, ys5, a5, m5, s5⟩ := v5
    unfold fzX at *
    simp only [Sx.row, List.map_cons, List.map_nil] at c1 c2 c3 c4 c5 c6 c7 d1 d2
    refine law10_StxLazy_l0 ?_
    unfold law10_StxLazy_R0
    rw [ints_len, dec_t, dec_f]
    refine ⟨fun h => by omega, fun _ => ⟨_, _, _, c1, _, _, _, _, _, _, _, _, c2, _, _, _, _, _, _, _, _, _, c3, ?_⟩⟩
    rw [bne_t, bne_f]
    refine ⟨fun _ => hR, fun z1 => ?_⟩
    rw [bne_t, bne_f]
    refine ⟨fun _ => hR, fun z2 => ⟨fun _ => ⟨_, _, _, _, _, _, _, _, _, c4, _, _, _, _, _, _, _, _, _, c5, _, _, _, _, _, _, _, _, c2, _, _, _, _, _, _, _, _, _, c6, ?_⟩, fun _ => ⟨_, _, _, _, _, _, _, _, _, c7, _, _, _, _, _, _, _, _, c2, _, _, _, _, _, _, _, _, _, c6, ?_⟩⟩⟩
    · rw [bne_t, bne_f]
      refine ⟨fun _ => hR, fun z3 => ?_⟩
      rw [bne_t, bne_f]
      refine ⟨fun _ => hR, fun z4 => ?_⟩
      rw [beq_t, beq_f]
      refine ⟨fun _ => hR, fun z5 => ⟨_, d1, ?_⟩⟩
      rw [e1 (hB0 z5) z1 z2 z3 z4]
      exact hR
    · rw [bne_t, bne_f]
      refine ⟨fun _ => hR, fun z3 => ?_⟩
      rw [bne_t, bne_f]
      refine ⟨fun _ => hR, fun z4 => ?_⟩
      rw [beq_t, beq_f]
      refine ⟨fun _ => hR, fun z5 => ⟨_, d2, ?_⟩⟩
      rw [e2 (hB0 z5) z1 z2 z3 z4]
      exact hR
  | d + 1, j, hj, hno, k, t, n, l, ys, a, m, s, hxe => by
    refine law10_StxLazy_l0 ?_
    unfold law10_StxLazy_R0
    have hbl := hBl.2
    have e : IntKind.wrap .i64 ((j : Int) + 1) = ((j + 1 : Nat) : Int) := w64 (by omega) (by omega)
    rw [ints_len, dec_t, dec_f, e]
    refine ⟨fun _ => ⟨by omega, _, rd_ints .i64 (l := B) (i := j) (by omega), ?_⟩, fun h => by omega⟩
    rw [beq_t, beq_f]
    refine ⟨fun _ => hR, fun hne => lazy_loop x hx A S B T hA hS hBl hT o R hR d (j + 1) (by omega) (fun v hv => ?_) k t n l ys a m s hxe⟩
    rw [List.take_succ_eq_append_getElem (by omega)] at hv
    rcases List.mem_append.1 hv with hv | hv
    · exact hno v hv
    · rw [rd_at B j (by omega)] at hne
      rw [List.mem_singleton.1 hv]; exact hne
theorem law_StxLazy (xs : List TV) (h : TyAll Tryz.prog [28, 30, 30, 4] xs) (hb : bulkA xs ≤ 1048576) : Fn Tryz.prog 6 xs [] (.one (.fz (.bool true))) [] := by
  cases h with
  | cons h1 h =>
  cases h with
  | cons h2 h =>
  cases h with
  | cons h3 h =>
  cases h with
  | cons h4 h =>
  cases h
  simp only [bulkA] at hb
  obtain ⟨x, rfl, hx, _⟩ := tyV_Sx h1 (by omega)
  obtain ⟨A, S, rfl, hA, hS⟩ := tyV_wrap h2
  obtain ⟨B, T, rfl, hB, hT⟩ := tyV_wrap h3
  obtain ⟨o, rfl⟩ := tyV_bool h4 Tryz.underlying4
  have c1 := light_ok10 x 1 hx (by omega) (by omega)
  have c2 := rSound9_ok x hx
  have lp := lazy_loop x hx A S B T hA hS hB hT o (fun r' h' => r' = TV.one (.fz (.bool true)) ∧ h' = []) ⟨rfl, rfl⟩ B.length 0 (by omega) (by simp)
  generalize x.lite 1 = b0 at *
  generalize x.snd = b1 at *
  obtain ⟨k, t, n, l, ys, a, m, s⟩ := x
  have lp := lp k t n l ys a m s rfl
  unfold fzX at *
  simp only [Sx.row, List.map_cons, List.map_nil] at c1 c2 ⊢
  refine law10_StxLazy_fn _ _ _ _ _ _ _ _ _ _ _ _ _ ?_
  unfold law10_StxLazy_H
  refine ⟨_, answers10_ok, fun h => (by cases h), fun _ => ⟨_, c1, ?_⟩⟩
  rw [not_t, not_f]
  refine ⟨fun _ => ⟨_, answers10_ok, rfl, rfl⟩, fun _ => ⟨_, c2, ?_⟩⟩
  rw [not_t, not_f]
  exact ⟨fun _ => ⟨_, answers10_ok, rfl, rfl⟩, fun _ => ⟨fun _ => ⟨_, answers10_ok, rfl, rfl⟩, fun _ => ⟨fun _ => ⟨_, answers10_ok, rfl, rfl⟩, fun _ => ⟨fun _ => ⟨_, answers10_ok, rfl, rfl⟩, fun _ => ⟨fun _ => ⟨_, answers10_ok, rfl, rfl⟩, fun _ => lp⟩⟩⟩⟩⟩
end
end Go.Proofs.YtljpbicmlcjpcaaGreatDoor.Ev
end
section
set_option linter.unusedVariables false
namespace Go.Proofs.YtljpbicmlcjpcaaGreatDoor.stxLazy
open Go.ChangeShapes Go.WideShapes Go.ChangeAt Go.RowKit Go.Joins
open Go.Proofs.YtljpbicmlcjpcaaGreatDoor.Ev (Ty TyAll TabAt Glob tabs closedB openedAll trodAll_below tabAt_ints_of tabAt_ifc_of tabAt_flat_of law_StxLazy returnsIn_upto witness_upto)
theorem own : ownKnob Tryz.prog.godebug = none := by kernel_rfl
theorem laidOut : laidOutB Tryz.prog = true := by kernel_rfl
set_option maxRecDepth 100000 in
theorem door_met (os : Os) (args : Array Value) : laidMetH Tryz.prog Rows.stxLazyUptoRow.laid ((World.laidAll Tryz.prog os Rows.stxLazyUptoRow.laid).forCall (fun _ _ => 0) ⟨#[], args, []⟩).memory :=
  Eq.mp (show laidMet Tryz.prog Rows.stxLazyUptoRow.laid ((World.laidAll Tryz.prog os Rows.stxLazyUptoRow.laid).forCall (fun _ _ => 0) ⟨#[], args, []⟩).memory = laidMetH Tryz.prog Rows.stxLazyUptoRow.laid ((World.laidAll Tryz.prog os Rows.stxLazyUptoRow.laid).forCall (fun _ _ => 0) ⟨#[], args, []⟩).memory by kernel_rfl) (laidMet_laidAll (os := os) args (by kernel_rfl) (by kernel_rfl))
set_option maxRecDepth 100000 in
theorem glob {W : World} (hL : laidMetH Tryz.prog Rows.stxLazyUptoRow.laid W) : Glob W := by
  have hM : laidMet Tryz.prog Rows.stxLazyUptoRow.laid W := Eq.mp (by kernel_rfl) hL
  intro x hx
  simp only [tabs, List.mem_cons, List.mem_nil_iff, or_false] at hx
  rcases hx with rfl | rfl | rfl | rfl | rfl | rfl
  · exact tabAt_flat_of (n := "unicode/utf8.first") (d := Rows.laid_unicode_utf8_first) (fs := (List.range 256).map fun c => Go.Proofs.YtljpbicmlcjpcaaGreatDoor.Ev.FV.int .u8 ((Go.Lib.firstT c : Nat) : Int)) (m := 8) hM (by kernel_rfl) (List.mem_of_getElem? (i := 6) (by kernel_rfl)) (g := 0) (t := 193) (by kernel_rfl) (by kernel_rfl) (by kernel_rfl)
  · exact tabAt_flat_of (n := "unicode/utf8.acceptRanges") (d := Rows.laid_unicode_utf8_acceptRanges) (fs := ((List.range 16).map fun i => [Go.Proofs.YtljpbicmlcjpcaaGreatDoor.Ev.FV.int .u8 ((Go.Lib.accLo i : Nat) : Int), Go.Proofs.YtljpbicmlcjpcaaGreatDoor.Ev.FV.int .u8 ((Go.Lib.accHi i : Nat) : Int)]).flatten) (m := 8) hM (by kernel_rfl) (List.mem_of_getElem? (i := 3) (by kernel_rfl)) (g := 1) (t := 197) (by kernel_rfl) (by kernel_rfl) (by kernel_rfl)
  · exact tabAt_ifc_of (n := "strconv.ErrSyntax") (d := Rows.laid_strconv_ErrSyntax) hM (by kernel_rfl) (List.mem_of_getElem? (i := 5) (by kernel_rfl)) (g := 2) (t := 166) (by kernel_rfl) (by kernel_rfl) Tryz.underlying166
  · exact tabAt_ifc_of (n := "strconv.ErrRange") (d := Rows.laid_strconv_ErrRange) hM (by kernel_rfl) (List.mem_of_getElem? (i := 4) (by kernel_rfl)) (g := 3) (t := 166) (by kernel_rfl) (by kernel_rfl) Tryz.underlying166
  · exact tabAt_flat_of (n := "internal/strconv.uint64pow10") (d := Rows.laid_internal_strconv_uint64pow10) (fs := (List.range 20).map fun i => Go.Proofs.YtljpbicmlcjpcaaGreatDoor.Ev.FV.int .u64 ((10 ^ i : Nat) : Int)) (m := 8) hM (by kernel_rfl) (List.mem_of_getElem? (i := 2) (by kernel_rfl)) (g := 5) (t := 223) (by kernel_rfl) (by kernel_rfl) (by kernel_rfl)
  · exact tabAt_flat_of (n := "math/bits.deBruijn64tab") (d := Rows.laid_math_bits_deBruijn64tab) (fs := [0, 1, 56, 2, 57, 49, 28, 3, 61, 58, 42, 50, 38, 29, 17, 4, 62, 47, 59, 36, 45, 43, 51, 22, 53, 39, 33, 30, 24, 18, 12, 5, 63, 55, 48, 27, 60, 41, 37, 16, 46, 35, 44, 21, 52, 32, 23, 11, 54, 26, 40, 15, 34, 20, 31, 10, 25, 14, 19, 9, 13, 8, 7, 6].map fun i => Go.Proofs.YtljpbicmlcjpcaaGreatDoor.Ev.FV.int .u8 i) (m := 8) hM (by kernel_rfl) (List.mem_of_getElem? (i := 1) (by kernel_rfl)) (g := 7) (t := 228) (by kernel_rfl) (by kernel_rfl) (by kernel_rfl)
set_option maxRecDepth 100000 in
theorem lifted (os : Os) (started : os.Started) (H : Type) (enc : TypeId × Value → H) :
    ReturnsInHanded {} Tryz.checked os 6 .any (fun w args => ((Rows.OpenSpec.upto Rows.stxLazySpec).pre enc Tryz.prog Tryz.f6 Rows.stxLazyUptoRow.domain false w args ∧ laidMetH Tryz.prog Rows.stxLazyUptoRow.laid w) ∧ sizedMet enc Tryz.prog Tryz.f6 (Rows.OpenSpec.upto Rows.stxLazySpec) false w args)
      (Rows.stxLazySpec.post enc Tryz.prog Tryz.f6 false true false false) := by
  refine returnsIn_upto (C := Tryz.checked) (X := fun w _ => laidMetH Tryz.prog Rows.stxLazyUptoRow.laid w) (fun _ _ _ hh h => h.of_heap hh) own started (by kernel_rfl) Tryz.func6
    (witness_upto (enc := enc) (C := Tryz.checked) (os := os) (s := Rows.stxLazySpec) (X := fun w _ => laidMetH Tryz.prog Rows.stxLazyUptoRow.laid w) (World.laidAll Tryz.prog os Rows.stxLazyUptoRow.laid) #[.agg #[.int .i64 0, .string ByteArray.empty, .bool false, .slice none 0 0, .slice none 0 0, .int .i64 0, .slice none 0 0, .slice none 0 0], .agg #[.slice none 0 0, .slice none 0 0], .agg #[.slice none 0 0, .slice none 0 0], .bool false] 8 (World.laidAll_os _ _ _) (World.shaped_of_ZipB (by kernel_rfl) (by kernel_rfl)) (by kernel_rfl) (by kernel_rfl) (by kernel_rfl) (door_met os _)) ?_
  intro W base args ds gs before hval0 hW hcnd hbk hsz0 hL
  have hsz : (DataW.weightsEach Tryz.prog (Tryz.f6.params.toList ++ Rows.stxLazySpec.plain.varTypes Tryz.prog) (ds ++ gs)).all (· ≤ reachBytes) = true := hsz0
  have hval : ∀ (j : Nat) t v, Tryz.f6.params[j]? = some t → args[j]? = some v → Value.okWide Tryz.prog W .any base t v := hval0
  have hW' := hW
  obtain ⟨p, q, hA0, hV, rfl, hfz, hnd⟩ := hW
  have hA : DataW.TrodAll enc Tryz.prog W 0 (fun _ => true) true Tryz.f6.params.toList args.toList ds p := hA0
  rw [Tryz.params6] at hA hval hsz
  obtain ⟨rfl, rfl⟩ := trodVars_none hV
  have hA2 := hA
  obtain ⟨v0, vs0, d0, ds0, p0, q0, hargs, rfl, rfl, h0_, r0⟩ := trodAll_cons hA2
  obtain ⟨v1, vs1, d1, ds1, p1, q1, rfl, rfl, rfl, h1_, r1⟩ := trodAll_cons r0
  obtain ⟨v2, vs2, d2, ds2, p2, q2, rfl, rfl, rfl, h2_, r2⟩ := trodAll_cons r1
  obtain ⟨v3, vs3, d3, ds3, p3, q3, rfl, rfl, rfl, h3_, r3⟩ := trodAll_cons r2
  obtain ⟨rfl, rfl, rfl⟩ := trodAll_nil r3
  obtain ⟨xs, h1, h2, h3, hb⟩ := openedAll (S := [28, 3, 9, 24, 4, 22, 89, 25, 26, 30]) (ts := [28, 30, 30, 4]) (by kernel_rfl) (by decide) (fun j t v ht hv => hval j t v (by simpa using ht) (by simpa using hv)) hA (fun m hm => by simpa using List.all_eq_true.1 hsz m hm)
  refine ((law_StxLazy xs h1 (Nat.le_trans hb hbk)).door (glob hL) (by simpa using h2) (fun i x hx => by obtain ⟨v, hv, hr⟩ := h3 i x hx; exact ⟨v, by simpa using hv, hr⟩)).mono fun e W' ⟨he, bel⟩ => ?_
  subst he
  exact ⟨_, rfl, _, _, _, [], _, [], hW', trodAll_mk1 (shut_bool Tryz.underlying4 _), trodAll_below laidOut bel (ts := [28, 30, 30, 4]) (by decide +kernel) hA, rfl, bel.frame _, fun h => by cases h⟩
theorem and_tt {a b : Bool} (ha : a = true) (hb : b = true) : (a && b) = true := by rw [ha, hb]; rfl
set_option maxHeartbeats 8000000 in
theorem over : Rows.stxLazyUptoRow.holds Tryz.pinned (Rows.OpenSpec.upto Rows.stxLazySpec) :=
  OpenClaim.holds_of_cond 6 Tryz.f6 rfl rfl rfl rfl rfl rfl rfl ⟨rfl, rfl, rfl, rfl, rfl⟩ rfl rfl rfl rfl rfl (by as_aux_lemma => kernel_rfl) Tryz.func6 (by unfold joinedFacts; repeat' (with_reducible refine and_tt ?_ ?_); all_goals as_aux_lemma => kernel_rfl)
    (of_decide_eq_true (by as_aux_lemma => kernel_rfl)) (by unfold Func.isWrapper; first | (rw [if_pos (by decide +kernel)]; kernel_rfl) | (rw [if_neg (by decide +kernel)]; exact ⟨rfl, rfl⟩))
    (fun os started H enc _ _ => lifted os started H enc)
theorem proved : Rows.StxLazyUptoCardSaid :=
  Claim7.holds_tied_plain_at .later [] [.data, .data, .data, .data, .sentinel, .sentinel, .pinned] true (true, "5529037661ee0e6043dad4402c2ce233d65bf9417480a107ce49451cb39ad436") true
    over (fun _ h => by cases h) (by kernel_rfl) (fun _ h => by cases h) stxLazyUpto_row_tie rfl ⟨rfl, rfl⟩ (by kernel_rfl) rfl
    (fun f fn hf hfn => by
      obtain rfl : f = 6 := Option.some.inj ((show Tryz.prog.funcNamed "marginalia/marginalialaw10.StxLazy" = some 6 by kernel_rfl).symm.trans hf) |>.symm
      obtain rfl : fn = Tryz.f6 := (Option.some.inj (Tryz.func6.symm.trans hfn)).symm
      exact ⟨by kernel_rfl, fun j t ht => by
        rw [Tryz.params6] at ht
        have hm : t ∈ [28, 30, 30, 4] := by simpa using Array.mem_of_getElem? ht
        have hall : ([28, 30, 30, 4].all fun u => !Tryz.prog.wantsStandIn u) = true := by kernel_rfl
        exact (show Tryz.prog.wantsStandIn t = false by simpa using List.all_eq_true.1 hall t hm)⟩)
    (by kernel_rfl)
end Go.Proofs.YtljpbicmlcjpcaaGreatDoor.stxLazy
namespace Go.Proofs.YtljpbicmlcjpcaaGreatDoor
theorem stxLazyUpto_holds : Rows.StxLazyUptoCardSaid := stxLazy.proved
end Go.Proofs.YtljpbicmlcjpcaaGreatDoor
end
