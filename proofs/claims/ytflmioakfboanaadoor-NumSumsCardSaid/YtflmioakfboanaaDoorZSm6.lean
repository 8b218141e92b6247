/-
  Part of a claim: definitions and lemmas that its theorem leans on, packed by wip/tools/pack.py.
-/
import Derived.Test.YtflmioakfboanaaDoorZSm5
import Derived.SizedLaws
import Derived.ProofKit
import Derived.OpenShut
import Derived.Lib.SmallJoins
import Derived.Test.YtflmioakfboanaaDoorRows
import Derived.Test.YtflmioakfboanaaDoorTie
import Derived.Test.YtflmioakfboanaaDoorCards
import Derived.ShutString
import Derived.ChangeOld
import Derived.LaidMore
import Derived.LaidLaws
import Derived.Stop.Joined
import Derived.SevenTiedAt
import Derived.Lib.LaidTab
set_option linter.unusedVariables false
set_option linter.unusedSimpArgs false
section
namespace Go.Proofs.YtflmioakfboanaaDoor.PNumSums
open Go.RowKit Go.Proofs.YtflmioakfboanaaDoorW.PrintWords Go.Proofs.YtflmioakfboanaaDoorW.PrintLast Go.Proofs.YtflmioakfboanaaDoor.Val
theorem pow9 (n : Nat) : (10 : Int) ^ (9 * n) = 1000000000 ^ n := by
  induction n with
  | zero => rfl
  | succ n ih => rw [show 9 * (n + 1) = 9 * n + 9 from by omega, Int.pow_add, ih, Int.pow_succ]; rfl
theorem limZ {l : List Int} (h : ∀ x ∈ l, x < 1000000000) (hw : ∀ x ∈ l, (Lit.int .u32 x).wf = true) : Lim 1000000000 l := fun x hx => by
  refine ⟨?_, h x hx⟩
  have := hw x hx
  simp [Lit.wf, IntKind.min, IntKind.max, IntKind.signed] at this
  omega
theorem dig_inner (a : Bool) (l : List Int) (x4 : Int) : ∀ (t : Nat) (x3 : List Int) (x5 x6 : Int), x6 = 9 - t → t ≤ 9 → x3.length + t < 140737488355328 → 0 ≤ x5 → x5 < 10 ^ t → x5 < 4294967296 →
    ∃ ds, ds.length = t ∧ Lim 10 ds ∧ val 10 ds = x5 ∧ ∀ r, Evt (fun k => marginaliaref01_Digits.l0 k (x3 ++ ds) (wrap64 (x4 + 1)) a l) r → Evt (fun k => marginaliaref01_Digits.l1 k x3 x4 x5 x6 a l) r
  | 0, x3, x5, x6, h6, _, _, h0, h1, _ => by
    refine ⟨[], rfl, Lim.nil _, by simp at h1; simp [val]; omega, fun r hr => Evt.step (fun k => ?_) hr⟩
    simp only [marginaliaref01_Digits.l1]
    rw [if_neg (by omega), List.append_nil]
  | t + 1, x3, x5, x6, h6, ht, hl, h0, h1, h2 => by
    have e1 : Int.tmod x5 10 % 256 = x5 % 10 := by rw [Int.tmod_eq_emod_of_nonneg h0]; omega
    have e2 : Int.tdiv x5 10 % 4294967296 = x5 / 10 := by rw [Int.tdiv_eq_ediv_of_nonneg h0]; omega
    have e3 : x5 / 10 < 10 ^ t := by rw [Int.pow_succ] at h1; omega
    obtain ⟨ds, hd1, hd2, hd3, hd4⟩ := dig_inner a l x4 t (x3 ++ [x5 % 10]) (x5 / 10) (x6 + 1) (by omega) (by omega) (by simp; omega) (by omega) e3 (by omega)
    refine ⟨x5 % 10 :: ds, by simp [hd1], ?_, by simp only [val, hd3]; omega, fun r hr => Evt.step (fun k => ?_) (hd4 r (by simpa using hr))⟩
    · intro x hx
      rcases List.mem_cons.1 hx with rfl | hx
      · omega
      · exact hd2 x hx
    · simp only [marginaliaref01_Digits.l1]
      rw [if_pos (by omega), if_pos (by omega), e1, e2, wrap64_of (by omega) (by omega)]
theorem dig_outer (a : Bool) (l : List Int) (hl : l.length ≤ 1000000) (hL : Lim 1000000000 l) : ∀ (d i : Nat) (x3 : List Int), i + d = l.length → x3.length = 9 * i → Lim 10 x3 → val 10 x3 = val 1000000000 (l.take i) →
    ∃ D, Lim 10 D ∧ Norm D ∧ val 10 D = val 1000000000 l ∧ D.length ≤ 9 * l.length ∧ Evt (fun k => marginaliaref01_Digits.l0 k x3 (i : Int) a l) D
  | 0, i, x3, hi, hx, hlim, hv => by
    obtain ⟨r, hc, hr⟩ := rtrim_ev x3 (by omega)
    have ht : l.take i = l := List.take_of_length_le (by omega)
    refine ⟨r, hc.lim hlim, hc.norm, by rw [hc.val, hv, ht], by have := hc.len; omega, ?_⟩
    refine Evt.step (h := fun k => (marginaliaref01_trim.f k x3).bind fun t => some t) (fun k => ?_) (Evt.bind hr (Evt.of fun _ => rfl))
    simp only [marginaliaref01_Digits.l0]
    rw [if_neg (by omega)]
  | d + 1, i, x3, hi, hx, hlim, hv => by
    have hr := hL.rd (i : Int) (by omega) (by omega)
    obtain ⟨ds, hd1, hd2, hd3, hd4⟩ := dig_inner a l (i : Int) 9 x3 (rd l i) 0 rfl (by omega) (by omega) hr.1 (by have := hr.2; omega) (by omega)
    obtain ⟨D, h1, h2, h3, h5, h4⟩ := dig_outer a l hl hL d (i + 1) (x3 ++ ds) (by omega) (by simp [hx, hd1]; omega) (hlim.append hd2) (by
      rw [val_append, hv, hd3, hx, pow9, List.take_succ_eq_append_getElem (by omega), val_snoc, ← rd_at l i (by omega), List.length_take, Nat.min_eq_left (by omega)])
    refine ⟨D, h1, h2, h3, h5, Evt.step (h := fun k => marginaliaref01_Digits.l1 k x3 (i : Int) (rd l i) 0 a l) (fun k => ?_) (hd4 D ?_)⟩
    · simp only [marginaliaref01_Digits.l0]
      rw [if_pos (by omega), if_pos (by omega)]
    · rw [wrap64_of (by omega) (by omega)]
      exact h4
theorem digits_ev (a : Bool) (l : List Int) (hl : l.length ≤ 1000000) (hL : Lim 1000000000 l) :
    ∃ D, Lim 10 D ∧ Norm D ∧ val 10 D = val 1000000000 l ∧ D.length ≤ 9 * l.length ∧ Evt (fun k => marginaliaref01_Digits.f k a l) D :=
  dig_outer a l hl hL l.length 0 [] (by omega) rfl (Lim.nil _) (by simp [val])
theorem make_inner (a : Bool) (d : List Int) (hd : d.length ≤ 1000000) (hL : Lim 10 d) (x7 : List Int) (hx7 : x7.length < 35184372088832) (i : Nat) (hi : i < d.length) : ∀ (t : Nat) (x9 : Int), t ≤ 9 → 0 ≤ x9 → x9 * 10 ^ t + 10 ^ t ≤ 1000000000 →
    ∀ r, Evt (fun k => marginaliaref01_Make.l0 k a d (x7 ++ [x9 * 10 ^ t + val 10 ((d.drop i).take t)]) (wrap64 ((i : Int) + 9))) r → Evt (fun k => marginaliaref01_Make.l1 k a d x7 (i : Int) x9 ((t : Int) - 1)) r
  | 0, x9, _, h0, h1, r, hr => by
    refine Evt.step (fun k => ?_) hr
    simp only [marginaliaref01_Make.l1]
    rw [if_neg (by omega), if_pos hx7]
    simp [val]
  | t + 1, x9, ht, h0, h1, r, hr => by
    have hp : (10 : Int) ^ t ≤ 10 ^ 8 := pow_mono (by omega) (by omega)
    have hp0 : (0 : Int) < 10 ^ t := pow_pos' (by omega) t
    rw [Int.pow_succ] at h1
    have hx : x9 < 1000000000 := by
      have : x9 * 1 ≤ x9 * (10 ^ t * 10) := Int.mul_le_mul_of_nonneg_left (by omega) h0
      omega
    have hx' : x9 * 10 + 10 ≤ 1000000000 := by
      have e : x9 * (10 ^ t * 10) + 10 ^ t * 10 = (x9 * 10 + 10) * 10 ^ t := by grind
      rw [e] at h1
      have : (x9 * 10 + 10) * 1 ≤ (x9 * 10 + 10) * 10 ^ t := Int.mul_le_mul_of_nonneg_left (by omega) (by omega)
      omega
    have ew : wrap64 ((i : Int) + (((t + 1 : Nat) : Int) - 1)) = ((i + t : Nat) : Int) := by rw [wrap64_of (by omega) (by omega)]; omega
    have ew2 : wrap64 ((((t + 1 : Nat) : Int) - 1) - 1) = (t : Int) - 1 := by rw [wrap64_of (by omega) (by omega)]; omega
    by_cases hin : i + t < d.length
    · have hg := hL.rd ((i + t : Nat) : Int) (by omega) (by omega)
      have em : (x9 * 10 + rd d ((i + t : Nat) : Int)) % 4294967296 = x9 * 10 + rd d ((i + t : Nat) : Int) := by omega
      have ih := make_inner a d hd hL x7 hx7 i hi t (x9 * 10 + rd d ((i + t : Nat) : Int)) (by omega) (by omega) (by
        have e : (x9 * 10 + rd d ((i + t : Nat) : Int)) * 10 ^ t + 10 ^ t = (x9 * 10 + (rd d ((i + t : Nat) : Int) + 1)) * 10 ^ t := by grind
        have e2 : x9 * (10 ^ t * 10) + 10 ^ t * 10 = (x9 * 10 + 10) * 10 ^ t := by grind
        rw [e]
        rw [e2] at h1
        have : (x9 * 10 + (rd d ((i + t : Nat) : Int) + 1)) * 10 ^ t ≤ (x9 * 10 + 10) * 10 ^ t := Int.mul_le_mul_of_nonneg_right (by omega) (Int.le_of_lt hp0)
        omega) r (by
        have e3 : (d.drop i).take (t + 1) = (d.drop i).take t ++ [d[i + t]] := by
          rw [List.take_succ_eq_append_getElem (by simp; omega)]
          simp
        rw [e3, val_snoc, ← rd_at d (i + t) hin, List.length_take, List.length_drop, Nat.min_eq_left (by omega), Int.pow_succ] at hr
        have e4 : x9 * (10 ^ t * 10) + (val 10 ((d.drop i).take t) + 10 ^ t * rd d ((i + t : Nat) : Int)) = (x9 * 10 + rd d ((i + t : Nat) : Int)) * 10 ^ t + val 10 ((d.drop i).take t) := by grind
        rw [e4] at hr
        exact hr)
      refine Evt.step (fun k => ?_) ih
      simp only [marginaliaref01_Make.l1]
      rw [if_pos (by omega), ew, if_pos (by omega), if_pos (by omega), em, ew2]
    · have em : x9 * 10 % 4294967296 = x9 * 10 := by omega
      have ih := make_inner a d hd hL x7 hx7 i hi t (x9 * 10) (by omega) (by omega) (by
        have e2 : x9 * (10 ^ t * 10) = x9 * 10 * 10 ^ t := by grind
        omega) r (by
        have e3 : (d.drop i).take (t + 1) = (d.drop i).take t := by
          rw [List.take_of_length_le (by simp; omega), List.take_of_length_le (by simp; omega)]
        rw [e3, Int.pow_succ] at hr
        have e4 : x9 * (10 ^ t * 10) = x9 * 10 * 10 ^ t := by grind
        rw [e4] at hr
        exact hr)
      refine Evt.step (fun k => ?_) ih
      simp only [marginaliaref01_Make.l1]
      rw [if_pos (by omega), ew, if_neg (by omega), em, ew2]
theorem make_outer (a : Bool) (d : List Int) (hd : d.length ≤ 1000000) (hL : Lim 10 d) (hn : Norm d) : ∀ (c i : Nat) (x7 : List Int), d.length ≤ i + c → i ≤ d.length + 8 → x7.length ≤ i → i = 9 * x7.length → Lim 1000000000 x7 → val 1000000000 x7 = val 10 (d.take i) → (d.length ≤ i → Norm x7) →
    ∃ l, Lim 1000000000 l ∧ Norm l ∧ val 1000000000 l = val 10 d ∧ Evt (fun k => marginaliaref01_Make.l0 k a d x7 (i : Int)) (a && decide (0 < d.length), l, true)
  | c, i, x7, hc, hi8, hx, h9, hlim, hv, hnx => by
    by_cases hin : i < d.length
    · cases c with
      | zero => omega
      | succ c =>
        let w := val 10 ((d.drop i).take 9)
        have hLd : Lim 10 ((d.drop i).take 9) := fun x hx => hL x (List.mem_of_mem_drop (List.mem_of_mem_take hx))
        have hw0 : 0 ≤ w := val_nonneg (by omega) hLd
        have hw1 : w < 1000000000 := by
          have h1 := val_lt (B := 10) (by omega) hLd
          have h2 : (10 : Int) ^ ((d.drop i).take 9).length ≤ 10 ^ 9 := pow_mono (by omega) (by simp; omega)
          have h3 : w = val 10 ((d.drop i).take 9) := rfl
          omega
        have htk : d.take (i + 9) = d.take i ++ (d.drop i).take 9 := by rw [List.take_add]
        obtain ⟨l, h1, h2, h3, h4⟩ := make_outer a d hd hL hn c (i + 9) (x7 ++ [w]) (by omega) (by omega) (by simp; omega) (by simp; omega) (hlim.snoc hw0 hw1) (by
          rw [val_snoc, hv, htk, val_append, List.length_take, Nat.min_eq_left (by omega), ← pow9, ← h9]) (fun hge => by
          refine norm_of_rd fun _ => ?_
          have e1 : (((x7 ++ [w]).length : Int) - 1) = ((x7.length : Nat) : Int) := by simp
          rw [e1, rd_at _ _ (by simp)]
          simp only [List.getElem_append_right (Nat.le_refl _), Nat.sub_self, List.getElem_cons_zero]
          intro hw
          have hdn : Norm ((d.drop i).take 9) := by
            rw [List.take_of_length_le (by simp; omega)]
            intro h0
            rw [List.getLast_drop]
            exact hn _
          have := (val_zero_iff (B := 10) (by omega) hLd hdn).1 hw
          have hlen : ((d.drop i).take 9).length = 0 := by rw [this]; rfl
          simp at hlen
          omega)
        refine ⟨l, h1, h2, h3, ?_⟩
        have ih := make_inner a d hd hL x7 (by omega) i hin 9 0 (by omega) (by omega) (by omega) (a && decide (0 < d.length), l, true) (by
          rw [wrap64_of (by omega) (by omega), Int.zero_mul, Int.zero_add]
          exact h4)
        refine Evt.step (fun k => ?_) ih
        simp only [marginaliaref01_Make.l0]
        rw [if_pos (by omega)]
        rfl
    · have ht : d.take i = d := List.take_of_length_le (by omega)
      refine ⟨x7, hlim, hnx (by omega), by rw [hv, ht], Evt.of1 fun k => ?_⟩
      simp only [marginaliaref01_Make.l0]
      rw [if_neg (by omega)]
      cases a <;> simp
theorem make_ev (a : Bool) (d : List Int) (hd : d.length ≤ 1000000) (hL : Lim 10 d) :
    ∃ l, Lim 1000000000 l ∧ Norm l ∧ val 1000000000 l = val 10 d ∧ Evt (fun k => marginaliaref01_Make.f k a d) (if 64 < l.length then (false, [], false) else (a && decide (0 < l.length), l, true)) := by
  obtain ⟨r, hc, hr⟩ := rtrim_ev d (by omega)
  have hLr := hc.lim hL
  have hrl := hc.len
  obtain ⟨l, h1, h2, h3, h4⟩ := make_outer a r (by omega) hLr hc.norm r.length 0 [] (by omega) (by omega) (by simp) (by simp) (Lim.nil _) (by simp [val]) (fun h => Norm.nil)
  refine ⟨l, h1, h2, by rw [h3, hc.val], ?_⟩
  have hv : val 1000000000 l = val 10 r := h3
  have hiff : l.length ≤ 64 ↔ r.length ≤ 576 := by
    rw [len_le_iff (by omega) h1 h2, len_le_iff (by omega) hLr hc.norm, hv, ← pow9]
  have hpos : decide (0 < r.length) = decide (0 < l.length) := by
    have z1 := val_zero_iff (B := 1000000000) (by omega) h1 h2
    have z2 := val_zero_iff (B := 10) (by omega) hLr hc.norm
    rw [hv] at z1
    have : l = [] ↔ r = [] := z1.symm.trans z2
    rw [← List.length_eq_zero_iff, ← List.length_eq_zero_iff] at this
    simp only [decide_eq_decide]
    omega
  by_cases hbig : 64 < l.length
  · rw [if_pos hbig]
    refine Evt.bind (g := fun k => marginaliaref01_trim.f k d) (h := fun t k => if (t.length : Int) > 576 then some (false, [], false) else marginaliaref01_Make.l0 k a t [] 0) hr (Evt.of fun k => ?_)
    rw [if_pos (by omega)]
  · rw [if_neg hbig, ← hpos]
    refine Evt.bind (g := fun k => marginaliaref01_trim.f k d) (h := fun t k => if (t.length : Int) > 576 then some (false, [], false) else marginaliaref01_Make.l0 k a t [] 0) hr (h4.congr fun k => ?_)
    rw [if_neg (by omega)]
    rfl
end Go.Proofs.YtflmioakfboanaaDoor.PNumSums
end
section
namespace Go.Proofs.YtflmioakfboanaaDoor.PNumSums
open Go.RowKit Go.Proofs.YtflmioakfboanaaDoorW.PrintWords Go.Proofs.YtflmioakfboanaaDoorW.PrintLast Go.Proofs.YtflmioakfboanaaDoor.Val
theorem ring_plus (vx p c ta tb A B q : Int) (h : vx + p * c = ta + tb) : vx + p * (A + c + B - 1000000000 * q) + p * 1000000000 * q = ta + p * A + (tb + p * B) := by grind
theorem ring_plus10 (vx p c ta tb A B q : Int) (h : vx + p * c = ta + tb) : vx + p * (c + A + B - 10 * q) + p * 10 * q = ta + p * A + (tb + p * B) := by grind
theorem ring_minus (vx p c ta tb A B e M : Int) (h : vx - p * c = ta - tb) : vx + p * (A + M * e - (c + B)) - p * M * e = ta + p * A - (tb + p * B) := by grind
theorem more_loop (a b : List Int) (hlen : a.length = b.length) (ha : a.length ≤ 1000000) (hLa : Lim 10 a) (hLb : Lim 10 b) : ∀ i : Nat, i ≤ a.length → a.drop i = b.drop i → Evt (fun k => marginaliaref01_more.l0 k a b ((i : Int) - 1)) (cmpV (val 10 a) (val 10 b))
  | 0, _, hd => by
    have e : a = b := by simpa using hd
    subst e
    rw [cmpV_eq rfl]
    refine Evt.of1 fun k => ?_
    simp only [marginaliaref01_more.l0]
    rw [if_neg (by omega)]
  | i + 1, hi, hd => by
    have e1 : (((i + 1 : Nat) : Int) - 1) = (i : Int) := by omega
    rw [e1]
    by_cases h1 : rd a (i : Int) > rd b (i : Int)
    · rw [cmpV_gt (lt_at (by omega) hLb hLa i (by omega) (by omega) hd.symm h1)]
      refine Evt.of1 fun k => ?_
      simp only [marginaliaref01_more.l0]
      rw [if_pos (by omega), if_pos (by omega), if_pos (by omega), if_pos (by omega), if_pos h1]
    · by_cases h2 : rd a (i : Int) < rd b (i : Int)
      · rw [cmpV_lt (lt_at (by omega) hLa hLb i (by omega) (by omega) hd h2)]
        refine Evt.of1 fun k => ?_
        simp only [marginaliaref01_more.l0]
        rw [if_pos (by omega), if_pos (by omega), if_pos (by omega), if_pos (by omega), if_neg h1, if_pos h2]
      · refine Evt.step (fun k => ?_) (more_loop a b hlen ha hLa hLb i (by omega) (drop_step hlen i (by omega) hd (by omega)))
        simp only [marginaliaref01_more.l0]
        rw [if_pos (by omega), if_pos (by omega), if_pos (by omega), if_pos (by omega), if_neg h1, if_neg h2, wrap64_of (by omega) (by omega)]
theorem more_ev (a b : List Int) (ha : a.length ≤ 1000000) (hLa : Lim 10 a) (hLb : Lim 10 b) (na : Norm a) (nb : Norm b) : Evt (fun k => marginaliaref01_more.f k a b) (cmpV (val 10 a) (val 10 b)) := by
  by_cases h : (a.length : Int) = (b.length : Int)
  · refine (more_loop a b (by omega) ha hLa hLb a.length (Nat.le_refl _) (by rw [List.drop_length, show a.length = b.length from by omega, List.drop_length])).congr fun k => ?_
    unfold marginaliaref01_more.f
    rw [if_pos h, wrap64_of (by omega) (by omega)]
  · by_cases h2 : (a.length : Int) > (b.length : Int)
    · rw [cmpV_gt (lt_len (by omega) hLb hLa na (by omega))]
      refine Evt.of fun k => ?_
      unfold marginaliaref01_more.f
      rw [if_neg h, if_pos h2]
    · rw [cmpV_lt (lt_len (by omega) hLa hLb nb (by omega))]
      refine Evt.of fun k => ?_
      unfold marginaliaref01_more.f
      rw [if_neg h, if_neg h2]
theorem compare_int (x y : Int) : cmp_Compare_int.f x y = some (cmpV x y) := by
  unfold cmp_Compare_int.f cmp_isNaN_int.f
  simp only [bne_self_eq_false, Option.bind_some, Bool.false_eq_true, if_false]
  unfold cmpV
  by_cases h1 : x < y
  · rw [if_pos h1, if_pos h1]
  · rw [if_neg h1, if_neg h1]
    by_cases h2 : x > y
    · rw [if_pos h2, if_neg (by omega)]
    · rw [if_neg h2, if_pos (by omega)]
theorem compare_u32 (x y : Int) : cmp_Compare_uint32.f x y = some (cmpV x y) := by
  unfold cmp_Compare_uint32.f cmp_isNaN_uint32.f
  simp only [bne_self_eq_false, Option.bind_some, Bool.false_eq_true, if_false]
  unfold cmpV
  by_cases h1 : x < y
  · rw [if_pos h1, if_pos h1]
  · rw [if_neg h1, if_neg h1]
    by_cases h2 : x > y
    · rw [if_pos h2, if_neg (by omega)]
    · rw [if_neg h2, if_pos (by omega)]
theorem size_loop (a b : List Int) (hlen : a.length = b.length) (ha : a.length ≤ 1000000) (hLa : Lim 1000000000 a) (hLb : Lim 1000000000 b) : ∀ i : Nat, i ≤ a.length → a.drop i = b.drop i → Evt (fun k => num_size.l0 k a b ((i : Int) - 1)) (cmpV (val 1000000000 a) (val 1000000000 b))
  | 0, _, hd => by
    have e : a = b := by simpa using hd
    subst e
    rw [cmpV_eq rfl]
    refine Evt.of1 fun k => ?_
    simp only [num_size.l0]
    rw [if_neg (by omega)]
  | i + 1, hi, hd => by
    have e1 : (((i + 1 : Nat) : Int) - 1) = (i : Int) := by omega
    rw [e1]
    by_cases h1 : rd a (i : Int) > rd b (i : Int)
    · rw [cmpV_gt (lt_at (by omega) hLb hLa i (by omega) (by omega) hd.symm h1)]
      refine Evt.of1 fun k => ?_
      simp only [num_size.l0]
      rw [if_pos (by omega), if_pos (by omega), if_pos (by omega), if_pos (by omega), compare_u32, cmpV_gt h1]
      rfl
    · by_cases h2 : rd a (i : Int) < rd b (i : Int)
      · rw [cmpV_lt (lt_at (by omega) hLa hLb i (by omega) (by omega) hd h2)]
        refine Evt.of1 fun k => ?_
        simp only [num_size.l0]
        rw [if_pos (by omega), if_pos (by omega), if_pos (by omega), if_pos (by omega), compare_u32, cmpV_lt h2]
        rfl
      · refine Evt.step (fun k => ?_) (size_loop a b hlen ha hLa hLb i (by omega) (drop_step hlen i (by omega) hd (by omega)))
        simp only [num_size.l0]
        rw [if_pos (by omega), if_pos (by omega), if_pos (by omega), if_pos (by omega), compare_u32, cmpV_eq (by omega), wrap64_of (by omega) (by omega)]
        rfl
theorem size_ev (a b : List Int) (ha : a.length ≤ 1000000) (hLa : Lim 1000000000 a) (hLb : Lim 1000000000 b) (na : Norm a) (nb : Norm b) : Evt (fun k => num_size.f k a b) (cmpV (val 1000000000 a) (val 1000000000 b)) := by
  by_cases h : a.length = b.length
  · refine (size_loop a b h ha hLa hLb a.length (Nat.le_refl _) (by rw [List.drop_length, h, List.drop_length])).congr fun k => ?_
    unfold num_size.f
    rw [compare_int, cmpV_eq (by omega), wrap64_of (by omega) (by omega)]
    rfl
  · by_cases h2 : b.length < a.length
    · rw [cmpV_gt (lt_len (by omega) hLb hLa na h2)]
      refine Evt.of fun k => ?_
      unfold num_size.f
      rw [compare_int, cmpV_gt (by omega)]
      rfl
    · rw [cmpV_lt (lt_len (by omega) hLa hLb nb (by omega))]
      refine Evt.of fun k => ?_
      unfold num_size.f
      rw [compare_int, cmpV_lt (by omega)]
      rfl
theorem num_plus_no_loop (a b : List Int) (ha : a.length ≤ 1000000) (hb : b.length ≤ a.length) (hLa : Lim 1000000000 a) (hLb : Lim 1000000000 b) : ∀ (d i : Nat) (x : List Int) (c : Int), i + d = a.length → x.length = i → Lim 1000000000 x → 0 ≤ c → c ≤ 1 → val 1000000000 x + 1000000000 ^ i * c = val 1000000000 (a.take i) + val 1000000000 (b.take i) →
    ∃ r : List Int, r.length = a.length + 1 ∧ Lim 1000000000 r ∧ val 1000000000 r = val 1000000000 a + val 1000000000 b ∧ Evt (fun k => num_plus_no.l0 k b x c a (a.length : Int) (i : Int)) r
  | 0, i, x, c, hi, hx, hL, h0, h1, hv => by
    refine ⟨x ++ [c], by simp [hx]; omega, hL.snoc h0 (by omega), ?_, Evt.of1 fun k => ?_⟩
    · rw [val_snoc, hx, hv, List.take_of_length_le (by omega), List.take_of_length_le (by omega)]
    · simp only [num_plus_no.l0]
      rw [if_neg (by omega), if_pos (by omega)]
  | d + 1, i, x, c, hi, hx, hL, h0, h1, hv => by
    have ga := lim_rd0 (by omega) hLa i
    have gb := lim_rd0 (by omega) hLb i
    have va := val_take_succ 1000000000 a i
    have vb := val_take_succ 1000000000 b i
    generalize hA : rd a (i : Int) = A at ga va
    generalize hB : rd b (i : Int) = B at gb vb
    have hT : 1000000000 * ((A + c + B) / 1000000000) + (A + c + B) % 1000000000 = A + c + B := Int.mul_ediv_add_emod _ _
    obtain ⟨r, r1, r2, r3, r4⟩ := num_plus_no_loop a b ha hb hLa hLb d (i + 1) (x ++ [(A + c + B) % 1000000000]) ((A + c + B) / 1000000000) (by omega) (by simp [hx]) (hL.snoc (by omega) (by omega)) (by omega) (by omega) (by
      rw [val_snoc, hx, va, vb, Int.pow_succ]
      generalize (A + c + B) / 1000000000 = q at hT
      generalize (A + c + B) % 1000000000 = m at hT
      have hm : m = A + c + B - 1000000000 * q := by omega
      rw [hm]
      exact ring_plus _ _ _ _ _ _ _ _ hv)
    refine ⟨r, r1, r2, r3, Evt.step (fun k => ?_) r4⟩
    have em : (A + c + B) % 4294967296 = A + c + B := by omega
    have em2 : (A + c) % 4294967296 = A + c := by omega
    by_cases hin : i < b.length
    · simp only [num_plus_no.l0]
      rw [if_pos (by omega), if_pos (by omega), if_pos (by omega), if_pos (by omega), if_pos (by omega), w_succ i (by omega), hA, hB, em]
    · have hB0 : B = 0 := by rw [← hB]; exact rd_out b i (by omega)
      subst hB0
      simp only [num_plus_no.l0]
      rw [if_pos (by omega), if_pos (by omega), if_pos (by omega), if_neg (by omega), if_pos (by omega), w_succ i (by omega), hA, em2, Int.add_zero]
theorem num_plus_yes_loop (a b : List Int) (ha : a.length ≤ 1000000) (hb : b.length ≤ a.length) (hLa : Lim 1000000000 a) (hLb : Lim 1000000000 b) : ∀ (d i : Nat) (x : List Int) (c : Int), i + d = a.length → x.length = i → Lim 1000000000 x → 0 ≤ c → c ≤ 1 → val 1000000000 x + 1000000000 ^ i * c = val 1000000000 (a.take i) + val 1000000000 (b.take i) →
    ∃ r : List Int, r.length = a.length + 1 ∧ Lim 1000000000 r ∧ val 1000000000 r = val 1000000000 a + val 1000000000 b ∧ Evt (fun k => num_plus_yes.l0 k b x c a (a.length : Int) (i : Int)) r
  | 0, i, x, c, hi, hx, hL, h0, h1, hv => by
    refine ⟨x ++ [c], by simp [hx]; omega, hL.snoc h0 (by omega), ?_, Evt.of1 fun k => ?_⟩
    · rw [val_snoc, hx, hv, List.take_of_length_le (by omega), List.take_of_length_le (by omega)]
    · simp only [num_plus_yes.l0]
      rw [if_neg (by omega), if_pos (by omega)]
  | d + 1, i, x, c, hi, hx, hL, h0, h1, hv => by
    have ga := lim_rd0 (by omega) hLa i
    have gb := lim_rd0 (by omega) hLb i
    have va := val_take_succ 1000000000 a i
    have vb := val_take_succ 1000000000 b i
    generalize hA : rd a (i : Int) = A at ga va
    generalize hB : rd b (i : Int) = B at gb vb
    have hT : 1000000000 * ((A + c + B) / 1000000000) + (A + c + B) % 1000000000 = A + c + B := Int.mul_ediv_add_emod _ _
    obtain ⟨r, r1, r2, r3, r4⟩ := num_plus_yes_loop a b ha hb hLa hLb d (i + 1) (x ++ [(A + c + B) % 1000000000]) ((A + c + B) / 1000000000) (by omega) (by simp [hx]) (hL.snoc (by omega) (by omega)) (by omega) (by omega) (by
      rw [val_snoc, hx, va, vb, Int.pow_succ]
      generalize (A + c + B) / 1000000000 = q at hT
      generalize (A + c + B) % 1000000000 = m at hT
      have hm : m = A + c + B - 1000000000 * q := by omega
      rw [hm]
      exact ring_plus _ _ _ _ _ _ _ _ hv)
    refine ⟨r, r1, r2, r3, Evt.step (fun k => ?_) r4⟩
    have em : (A + c + B) % 4294967296 = A + c + B := by omega
    have em2 : (A + c) % 4294967296 = A + c := by omega
    by_cases hin : i < b.length
    · simp only [num_plus_yes.l0]
      rw [if_pos (by omega), if_pos (by omega), if_pos (by omega), if_pos (by omega), if_pos (by omega), w_succ i (by omega), hA, hB, em]
    · have hB0 : B = 0 := by rw [← hB]; exact rd_out b i (by omega)
      subst hB0
      simp only [num_plus_yes.l0]
      rw [if_pos (by omega), if_pos (by omega), if_pos (by omega), if_neg (by omega), if_pos (by omega), w_succ i (by omega), hA, em2, Int.add_zero]
theorem plus_ev (a b : List Int) (ha : a.length ≤ 1000000) (hb : b.length ≤ 1000000) (hLa : Lim 1000000000 a) (hLb : Lim 1000000000 b) :
    ∃ r : List Int, r.length ≤ 1000001 ∧ Lim 1000000000 r ∧ val 1000000000 r = val 1000000000 a + val 1000000000 b ∧ Evt (fun k => num_plus.f k a b) r := by
  by_cases h : (a.length : Int) < (b.length : Int)
  · obtain ⟨r, r1, r2, r3, r4⟩ := num_plus_yes_loop b a hb (by omega) hLb hLa b.length 0 [] 0 (by omega) rfl (Lim.nil _) (by omega) (by omega) (by simp [val])
    refine ⟨r, by omega, r2, by omega, r4.congr fun k => ?_⟩
    unfold num_plus.f num_plus_yes.f
    rw [if_pos h, if_pos h, w_succ b.length (by omega), if_pos (by omega), if_pos (by omega)]
    rfl
  · obtain ⟨r, r1, r2, r3, r4⟩ := num_plus_no_loop a b ha (by omega) hLa hLb a.length 0 [] 0 (by omega) rfl (Lim.nil _) (by omega) (by omega) (by simp [val])
    refine ⟨r, by omega, r2, r3, r4.congr fun k => ?_⟩
    unfold num_plus.f num_plus_no.f
    rw [if_neg h, if_neg h, w_succ a.length (by omega), if_pos (by omega), if_pos (by omega)]
    rfl
theorem rplus_loop (a b : List Int) (ha : a.length ≤ 1000000) (hb : b.length ≤ 1000000) (hLa : Lim 10 a) (hLb : Lim 10 b) : ∀ (d i : Nat) (x : List Int) (c : Int), i + d = max a.length b.length → x.length = i → Lim 10 x → 0 ≤ c → c ≤ 1 → val 10 x + 10 ^ i * c = val 10 (a.take i) + val 10 (b.take i) →
    ∃ r : List Int, r.length ≤ 1000001 ∧ Lim 10 r ∧ Norm r ∧ val 10 r = val 10 a + val 10 b ∧ Evt (fun k => marginaliaref01_plus.l0 k a b x c (i : Int)) r
  | 0, i, x, c, hi, hx, hL, h0, h1, hv => by
    obtain ⟨r, hc, hr⟩ := rtrim_ev (x ++ [c]) (by simp; omega)
    refine ⟨r, by have := hc.len; simp at this; omega, hc.lim (hL.snoc h0 (by omega)), hc.norm, ?_, ?_⟩
    · rw [hc.val, val_snoc, hx, hv, List.take_of_length_le (by omega), List.take_of_length_le (by omega)]
    · have d1 : decide ((i : Int) < (b.length : Int)) = false := decide_eq_false (by omega)
      refine Evt.step (h := fun k => marginaliaref01_plus.j1 k a b x c (i : Int) false) (fun k => ?_) (Evt.step (fun k => ?_) (Evt.bind (h := fun t _ => some t) hr (Evt.some_ _)))
      · simp only [marginaliaref01_plus.l0]
        rw [if_neg (by omega), d1]
      · simp only [marginaliaref01_plus.j1]
        rw [if_neg (by simp), if_pos (by omega)]
  | d + 1, i, x, c, hi, hx, hL, h0, h1, hv => by
    have ga := lim_rd0 (by omega) hLa i
    have gb := lim_rd0 (by omega) hLb i
    have va := val_take_succ 10 a i
    have vb := val_take_succ 10 b i
    generalize hA : rd a (i : Int) = A at ga va
    generalize hB : rd b (i : Int) = B at gb vb
    have hT : 10 * ((c + A + B) / 10) + (c + A + B) % 10 = c + A + B := Int.mul_ediv_add_emod _ _
    obtain ⟨r, r1, r2, r3, r4, r5⟩ := rplus_loop a b ha hb hLa hLb d (i + 1) (x ++ [(c + A + B) % 10]) ((c + A + B) / 10) (by omega) (by simp [hx]) (hL.snoc (by omega) (by omega)) (by omega) (by omega) (by
      rw [val_snoc, hx, va, vb, Int.pow_succ]
      generalize (c + A + B) / 10 = q at hT
      generalize (c + A + B) % 10 = m at hT
      have hm : m = c + A + B - 10 * q := by omega
      rw [hm]
      exact ring_plus10 _ _ _ _ _ _ _ _ hv)
    refine ⟨r, r1, r2, r3, r4, ?_⟩
    have em : (c + A + B) % 256 = c + A + B := by omega
    refine Evt.step (h := fun k => marginaliaref01_plus.j1 k a b x c (i : Int) true) (fun k => ?_) (Evt.step (fun k => ?_) r5)
    · simp only [marginaliaref01_plus.l0]
      by_cases hia : i < a.length
      · rw [if_pos (by omega)]
      · have d1 : decide ((i : Int) < (b.length : Int)) = true := decide_eq_true (by omega)
        rw [if_neg (by omega), d1]
    · simp only [marginaliaref01_plus.j1]
      rw [if_pos True.intro]
      by_cases hia : i < a.length
      · rw [if_pos (by omega), if_pos (by omega)]
        by_cases hib : i < b.length
        · rw [if_pos (by omega), if_pos (by omega), w_succ i (by omega), hA, hB, em]
        · have hB0 : B = 0 := by rw [← hB]; exact rd_out b i (by omega)
          subst hB0
          rw [Int.add_zero] at em ⊢
          rw [if_neg (by omega), if_pos (by omega), w_succ i (by omega), hA, em]
      · have hA0 : A = 0 := by rw [← hA]; exact rd_out a i (by omega)
        subst hA0
        rw [Int.add_zero] at em ⊢
        rw [if_neg (by omega), if_pos (by omega), if_pos (by omega), if_pos (by omega), w_succ i (by omega), hB, em]
theorem rplus_ev (a b : List Int) (ha : a.length ≤ 1000000) (hb : b.length ≤ 1000000) (hLa : Lim 10 a) (hLb : Lim 10 b) :
    ∃ r : List Int, r.length ≤ 1000001 ∧ Lim 10 r ∧ Norm r ∧ val 10 r = val 10 a + val 10 b ∧ Evt (fun k => marginaliaref01_plus.f k a b) r :=
  rplus_loop a b ha hb hLa hLb (max a.length b.length) 0 [] 0 (by omega) rfl (Lim.nil _) (by omega) (by omega) (by simp [val])
theorem rplus_len (X Y p : List Int) (hX : X.length ≤ 10000) (hY : Y.length ≤ 10000) (hLX : Lim 10 X) (hLY : Lim 10 Y) (hLp : Lim 10 p) (np : Norm p) (h : val 10 p = val 10 X + val 10 Y) : p.length ≤ 10001 := by
  rw [len_le_iff (B := 10) (by omega) hLp np]
  have a1 := val_lt (by omega) hLX
  have a2 := val_lt (by omega) hLY
  have a3 : (10 : Int) ^ X.length ≤ 10 ^ 10000 := pow_mono (by omega) hX
  have a4 : (10 : Int) ^ Y.length ≤ 10 ^ 10000 := pow_mono (by omega) hY
  have a5 : (10 : Int) ^ 10001 = 10 ^ 10000 * 10 := Int.pow_succ 10 10000
  generalize (10 : Int) ^ 10000 = z at a3 a4 a5
  rw [a5, h]
  generalize (10 : Int) ^ X.length = x at a1 a3
  generalize (10 : Int) ^ Y.length = y at a2 a4
  omega
theorem take_set {l : List Int} (i : Nat) (h : i < l.length) (v : Int) : (l.set i v).take (i + 1) = l.take i ++ [v] := by
  rw [List.take_succ_eq_append_getElem (by simpa using h), List.getElem_set_self, List.take_set_of_le (Nat.le_refl _)]
theorem drop_set {l : List Int} (i : Nat) (v : Int) : (l.set i v).drop (i + 1) = l.drop (i + 1) := by
  rw [List.drop_set_of_lt (by omega)]
theorem rd_drop {l m : List Int} {i : Nat} (hl : i < l.length) (hm : i < m.length) (h : l.drop i = m.drop i) : rd l (i : Int) = rd m (i : Int) := by
  rw [List.drop_eq_getElem_cons (l := l) (i := i) hl, List.drop_eq_getElem_cons (l := m) (i := i) hm] at h
  rw [rd_at l i hl, rd_at m i hm]
  exact (List.cons.inj h).1
theorem minus_loop (a b : List Int) (ha : a.length ≤ 1000000) (hLa : Lim 1000000000 a) (hLb : Lim 1000000000 b) : ∀ (d i : Nat) (x : List Int) (c : Int), i + d = a.length → x.length = a.length → Lim 1000000000 x → x.drop i = a.drop i → 0 ≤ c → c ≤ 1 → val 1000000000 (x.take i) - 1000000000 ^ i * c = val 1000000000 (a.take i) - val 1000000000 (b.take i) →
    ∃ (r : List Int) (c' : Int), r.length = a.length ∧ Lim 1000000000 r ∧ 0 ≤ c' ∧ val 1000000000 r - 1000000000 ^ a.length * c' = val 1000000000 a - val 1000000000 (b.take a.length) ∧ Evt (fun k => num_minus.l0 k b x c (a.length : Int) (i : Int)) r
  | 0, i, x, c, hi, hx, hL, hd, h0, h1, hv => by
    refine ⟨x, c, hx, hL, h0, ?_, Evt.of1 fun k => ?_⟩
    · have e : i = a.length := by omega
      subst e
      rwa [List.take_of_length_le (by omega), List.take_of_length_le (by omega)] at hv
    · simp only [num_minus.l0]
      rw [if_neg (by omega)]
  | d + 1, i, x, c, hi, hx, hL, hd, h0, h1, hv => by
    have hxa := rd_drop (l := x) (m := a) (i := i) (by omega) (by omega) hd
    have ga := lim_rd0 (by omega) hLa i
    have gb := lim_rd0 (by omega) hLb i
    have va := val_take_succ 1000000000 a i
    have vb := val_take_succ 1000000000 b i
    generalize hA : rd a (i : Int) = A at ga va hxa
    generalize hB : rd b (i : Int) = B at gb vb
    have hd2 : x.drop (i + 1) = a.drop (i + 1) := by
      rw [List.drop_eq_getElem_cons (l := x) (i := i) (by omega), List.drop_eq_getElem_cons (l := a) (i := i) (by omega)] at hd
      exact (List.cons.inj hd).2
    have key : ∀ (e v : Int), v = A + 1000000000 * e - (c + B) → 0 ≤ v → v < 1000000000 → 0 ≤ e → e ≤ 1 →
        ∃ (r : List Int) (c' : Int), r.length = a.length ∧ Lim 1000000000 r ∧ 0 ≤ c' ∧ val 1000000000 r - 1000000000 ^ a.length * c' = val 1000000000 a - val 1000000000 (b.take a.length) ∧ Evt (fun k => num_minus.l0 k b (x.set i v) e (a.length : Int) ((i + 1 : Nat) : Int)) r := by
      intro e v hv2 hv0 hv1 he0 he1
      refine minus_loop a b ha hLa hLb d (i + 1) (x.set i v) e (by omega) (by simp [hx]) (hL.set _ _ hv0 hv1) (by rw [drop_set]; exact hd2) he0 he1 ?_
      rw [take_set i (by omega), val_snoc, List.length_take, Nat.min_eq_left (by omega), va, vb, Int.pow_succ, hv2]
      exact ring_minus _ _ _ _ _ _ _ _ _ hv
    have hsz : ∀ v : Int, (x.set i v).length = x.length := by simp
    have hset : ∀ u v : Int, (x.set i u).set i v = x.set i v := by intro u v; rw [List.set_set]
    have hrd : ∀ u : Int, rd (x.set i u) (i : Int) = u := by intro u; rw [rd_at _ i (by rw [hsz]; omega), List.getElem_set_self]
    by_cases hlt : A < c + B
    · obtain ⟨r, c', r1, r2, r3, r4, r5⟩ := key 1 (A + 1000000000 - (c + B)) (by omega) (by omega) (by omega) (by omega) (by omega)
      refine ⟨r, c', r1, r2, r3, r4, Evt.step (fun k => ?_) r5⟩
      have m1 : (c + B) % 4294967296 = c + B := by omega
      have m2 : (A + 1000000000) % 4294967296 = A + 1000000000 := by omega
      have m3 : (A + 1000000000 - (c + B)) % 4294967296 = A + 1000000000 - (c + B) := by omega
      simp only [num_minus.l0]
      by_cases hin : i < b.length
      · rw [if_pos (by omega), if_pos (by omega), if_pos (by omega), if_pos (by omega), hxa, hB, m1, if_pos hlt]
        simp only [Option.bind_some, Int.toNat_natCast]
        rw [hrd, hset, m2, m3, w_succ i (by omega)]
      · have hB0 : B = 0 := by rw [← hB]; exact rd_out b i (by omega)
        subst hB0
        rw [Int.add_zero] at hlt m3 ⊢
        rw [if_pos (by omega), if_neg (by omega), if_pos (by omega), if_pos (by omega), hxa, if_pos hlt]
        simp only [Option.bind_some, Int.toNat_natCast]
        rw [hrd, hset, m2, m3, w_succ i (by omega)]
    · obtain ⟨r, c', r1, r2, r3, r4, r5⟩ := key 0 (A - (c + B)) (by omega) (by omega) (by omega) (by omega) (by omega)
      refine ⟨r, c', r1, r2, r3, r4, Evt.step (fun k => ?_) r5⟩
      have m1 : (c + B) % 4294967296 = c + B := by omega
      have m3 : (A - (c + B)) % 4294967296 = A - (c + B) := by omega
      simp only [num_minus.l0]
      by_cases hin : i < b.length
      · rw [if_pos (by omega), if_pos (by omega), if_pos (by omega), if_pos (by omega), hxa, hB, m1, if_neg hlt, m3, w_succ i (by omega), Int.toNat_natCast]
      · have hB0 : B = 0 := by rw [← hB]; exact rd_out b i (by omega)
        subst hB0
        rw [Int.add_zero] at hlt m3 ⊢
        rw [if_pos (by omega), if_neg (by omega), if_pos (by omega), if_pos (by omega), hxa, if_neg hlt, m3, w_succ i (by omega), Int.toNat_natCast]
theorem minus_ev (a b : List Int) (ha : a.length ≤ 1000000) (hLa : Lim 1000000000 a) (hLb : Lim 1000000000 b) (nb : Norm b) (hle : val 1000000000 b ≤ val 1000000000 a) :
    ∃ r : List Int, r.length ≤ 1000001 ∧ Lim 1000000000 r ∧ val 1000000000 r = val 1000000000 a - val 1000000000 b ∧ Evt (fun k => num_minus.f k a b) r := by
  have hbl := len_le_of_val (by omega) hLa hLb nb hle
  obtain ⟨r, c', r1, r2, r3, r4, r5⟩ := minus_loop a b ha hLa hLb a.length 0 a 0 (by omega) rfl hLa rfl (by omega) (by omega) (by simp [val])
  rw [List.take_of_length_le hbl] at r4
  have hlt := val_lt (by omega) r2
  rw [r1] at hlt
  have hc : c' = 0 := by
    apply Decidable.byContradiction
    intro hne
    have h1 := pow_pos' (B := 1000000000) (by omega) a.length
    have h2 : (1000000000 : Int) ^ a.length * 1 ≤ 1000000000 ^ a.length * c' := Int.mul_le_mul_of_nonneg_left (by omega) (by omega)
    omega
  subst hc
  refine ⟨r, by omega, r2, by omega, r5.congr fun k => ?_⟩
  unfold num_minus.f slices_Clone_uint32_uint32.f
  rw [if_pos (by omega)]
  rfl
theorem rminus_loop (a b : List Int) (ha : a.length ≤ 1000000) (hLa : Lim 10 a) (hLb : Lim 10 b) : ∀ (d i : Nat) (x : List Int) (c : Int), i + d = a.length → x.length = i → Lim 10 x → 0 ≤ c → c ≤ 1 → val 10 x - 10 ^ i * c = val 10 (a.take i) - val 10 (b.take i) →
    ∃ (y r : List Int) (c' : Int), y.length = a.length ∧ Lim 10 y ∧ 0 ≤ c' ∧ val 10 y - 10 ^ a.length * c' = val 10 a - val 10 (b.take a.length) ∧ Cut y r ∧ Evt (fun k => marginaliaref01_minus.l0 k a b x c (i : Int)) r
  | 0, i, x, c, hi, hx, hL, h0, h1, hv => by
    obtain ⟨r, hc, hr⟩ := rtrim_ev x (by omega)
    refine ⟨x, r, c, by omega, hL, h0, ?_, hc, ?_⟩
    · have e : i = a.length := by omega
      subst e
      rwa [List.take_of_length_le (Nat.le_refl _)] at hv
    · refine Evt.step (fun k => ?_) (Evt.bind (h := fun t _ => some t) hr (Evt.some_ _))
      simp only [marginaliaref01_minus.l0]
      rw [if_neg (by omega)]
  | d + 1, i, x, c, hi, hx, hL, h0, h1, hv => by
    have ga := lim_rd0 (by omega) hLa i
    have gb := lim_rd0 (by omega) hLb i
    have va := val_take_succ 10 a i
    have vb := val_take_succ 10 b i
    generalize hA : rd a (i : Int) = A at ga va
    generalize hB : rd b (i : Int) = B at gb vb
    have key : ∀ (e v : Int), v = A + 10 * e - (c + B) → 0 ≤ v → v < 10 → 0 ≤ e → e ≤ 1 →
        ∃ (y r : List Int) (c' : Int), y.length = a.length ∧ Lim 10 y ∧ 0 ≤ c' ∧ val 10 y - 10 ^ a.length * c' = val 10 a - val 10 (b.take a.length) ∧ Cut y r ∧ Evt (fun k => marginaliaref01_minus.l0 k a b (x ++ [v]) e ((i + 1 : Nat) : Int)) r := by
      intro e v hv2 hv0 hv1 he0 he1
      refine rminus_loop a b ha hLa hLb d (i + 1) (x ++ [v]) e (by omega) (by simp [hx]) (hL.snoc hv0 hv1) he0 he1 ?_
      rw [val_snoc, hx, va, vb, Int.pow_succ, hv2]
      exact ring_minus _ _ _ _ _ _ _ _ _ hv
    by_cases hlt : A < c + B
    · obtain ⟨y, r, c', r1, r2, r3, r4, r6, r5⟩ := key 1 (A + 10 - (c + B)) (by omega) (by omega) (by omega) (by omega) (by omega)
      refine ⟨y, r, c', r1, r2, r3, r4, r6, Evt.step (fun k => ?_) r5⟩
      have m1 : (c + B) % 256 = c + B := by omega
      have m3 : (A + 10 - (c + B)) % 256 = A + 10 - (c + B) := by omega
      simp only [marginaliaref01_minus.l0]
      by_cases hin : i < b.length
      · rw [if_pos (by omega), if_pos (by omega), if_pos (by omega), hA, hB, m1, if_pos hlt, if_pos (by omega), m3, w_succ i (by omega)]
      · have hB0 : B = 0 := by rw [← hB]; exact rd_out b i (by omega)
        subst hB0
        rw [Int.add_zero] at hlt m3 ⊢
        rw [if_pos (by omega), if_neg (by omega), if_pos (by omega), hA, if_pos hlt, if_pos (by omega), m3, w_succ i (by omega)]
    · obtain ⟨y, r, c', r1, r2, r3, r4, r6, r5⟩ := key 0 (A - (c + B)) (by omega) (by omega) (by omega) (by omega) (by omega)
      refine ⟨y, r, c', r1, r2, r3, r4, r6, Evt.step (fun k => ?_) r5⟩
      have m1 : (c + B) % 256 = c + B := by omega
      have m3 : (A - (c + B)) % 256 = A - (c + B) := by omega
      simp only [marginaliaref01_minus.l0]
      by_cases hin : i < b.length
      · rw [if_pos (by omega), if_pos (by omega), if_pos (by omega), hA, hB, m1, if_neg hlt, if_pos (by omega), m3, w_succ i (by omega)]
      · have hB0 : B = 0 := by rw [← hB]; exact rd_out b i (by omega)
        subst hB0
        rw [Int.add_zero] at hlt m3 ⊢
        rw [if_pos (by omega), if_neg (by omega), if_pos (by omega), hA, if_neg hlt, if_pos (by omega), m3, w_succ i (by omega)]
theorem rminus_ev (a b : List Int) (ha : a.length ≤ 1000000) (hLa : Lim 10 a) (hLb : Lim 10 b) (nb : Norm b) (hle : val 10 b ≤ val 10 a) :
    ∃ r : List Int, r.length ≤ 1000001 ∧ Lim 10 r ∧ Norm r ∧ val 10 r = val 10 a - val 10 b ∧ Evt (fun k => marginaliaref01_minus.f k a b) r := by
  have hbl := len_le_of_val (by omega) hLa hLb nb hle
  obtain ⟨y, r, c', r1, r2, r3, r4, r6, r5⟩ := rminus_loop a b ha hLa hLb a.length 0 [] 0 (by omega) rfl (Lim.nil _) (by omega) (by omega) (by simp [val])
  rw [List.take_of_length_le hbl] at r4
  have hlt := val_lt (by omega) r2
  rw [r1] at hlt
  have hc : c' = 0 := by
    apply Decidable.byContradiction
    intro hne
    have h1 := pow_pos' (B := 10) (by omega) a.length
    have h2 : (10 : Int) ^ a.length * 1 ≤ 10 ^ a.length * c' := Int.mul_le_mul_of_nonneg_left (by omega) (by omega)
    omega
  subst hc
  exact ⟨r, by have := r6.len; omega, r6.lim r2, r6.norm, by rw [r6.val]; omega, r5⟩
end Go.Proofs.YtflmioakfboanaaDoor.PNumSums
end
section
namespace Go.Proofs.YtflmioakfboanaaDoor.PNumSums
open Go.RowKit Go.Proofs.YtflmioakfboanaaDoorW.PrintWords Go.Proofs.YtflmioakfboanaaDoorW.PrintLast Go.Proofs.YtflmioakfboanaaDoor.Val
def sg (s : Bool) (v : Int) : Int := if s = true then -v else v
def out (s : Bool) (r : List Int) : Bool × List Int × Int := if r.length > 64 then (false, [], 6) else (s && decide (0 < r.length), r, 0)
structure Is (v : Int) (s : Bool) (r : List Int) : Prop where
  lim : Lim 1000000000 r
  norm : Norm r
  val : sg s (val 1000000000 r) = v
theorem Is.out_eq {v : Int} {s t : Bool} {r q : List Int} (h : Is v s r) (k : Is v t q) : out s r = out t q := by
  have h0 := val_nonneg (by omega) h.lim
  have k0 := val_nonneg (by omega) k.lim
  have e : sg s (Val.val 1000000000 r) = sg t (Val.val 1000000000 q) := h.val.trans k.val.symm
  unfold sg at e
  by_cases hz : Val.val 1000000000 r = 0
  · have kz : Val.val 1000000000 q = 0 := by split at e <;> split at e <;> omega
    have r0 := (val_zero_iff (by omega) h.lim h.norm).1 hz
    have q0 := (val_zero_iff (by omega) k.lim k.norm).1 kz
    subst r0 q0
    simp [out]
  · have hst : s = t ∧ Val.val 1000000000 r = Val.val 1000000000 q := by
      cases s <;> cases t <;> simp at e ⊢ <;> omega
    obtain ⟨rfl, hv⟩ := hst
    rw [uniq (by omega) h.lim k.lim h.norm k.norm hv]
theorem of_out (s : Bool) (l : List Int) (hl : l.length ≤ 4611686018427387904) (hL : Lim 1000000000 l) : ∃ r, Is (sg s (Val.val 1000000000 l)) s r ∧ Evt (fun k => (num_of.f k s l).bind fun t => some (t.1, t.2.1, t.2.2)) (out s r) := by
  obtain ⟨r, hc, hr⟩ := of_ev s l hl
  exact ⟨r, ⟨hc.lim hL, hc.norm, by rw [hc.val]⟩, Evt.bind (h := fun t _ => some (t.1, t.2.1, t.2.2)) hr (Evt.some_ _)⟩
theorem give_out (s : Bool) (d : List Int) (hd : d.length ≤ 1000000) (hL : Lim 10 d) : ∃ r, Is (sg s (Val.val 10 d)) s r ∧ Evt (fun k => (marginaliaref01_give.f k s d).bind fun t => some (t.1, t.2.1, t.2.2)) (out s r) := by
  obtain ⟨l, h1, h2, h3, h4⟩ := make_ev s d hd hL
  refine ⟨l, ⟨h1, h2, by rw [h3]⟩, Evt.bind (h := fun t _ => some (t.1, t.2.1, t.2.2)) (a := out s l) ?_ (Evt.some_ _)⟩
  refine Evt.bind (g := fun k => marginaliaref01_Make.f k s d) (h := fun t _ => if t.2.2 = true then some (t.1, t.2.1, 0) else some (false, [], 6)) h4 (Evt.of fun k => ?_)
  unfold out
  by_cases h : 64 < l.length
  · rw [if_pos h, if_pos h]; rfl
  · rw [if_neg h, if_neg h]; rfl
theorem sounds (a b : Bool) (la lb : List Int) (hla : la.length ≤ 4611686018427387904) (hlb : lb.length ≤ 4611686018427387904) : ∃ c, num_sound.f a la b lb = some c ∧ (c = true ↔ Snd a la ∧ Snd b lb) := by
  obtain ⟨x, hx, hxi⟩ := sound_spec a la hla
  obtain ⟨y, hy, hyi⟩ := sound_spec b lb hlb
  unfold num_sound.f
  rw [hx, hy]
  cases x with
  | false => exact ⟨false, rfl, by simp; intro h; exact absurd (hxi.2 h) (by simp)⟩
  | true => exact ⟨y, rfl, by rw [hyi]; simp [hxi.1 rfl]⟩
theorem add_core (a b : Bool) (la lb : List Int) (hla : la.length ≤ 1000) (hlb : lb.length ≤ 1000) (hLa : Lim 1000000000 la) (hLb : Lim 1000000000 lb) (na : Norm la) (nb : Norm lb) :
    ∃ s r, Is (sg a (Val.val 1000000000 la) + sg b (Val.val 1000000000 lb)) s r ∧ Evt (fun k => if (a == b) = true then ((num_plus.f k la lb).bind fun t => ((num_of.f k a t).bind fun u => some (u.1, u.2.1, u.2.2))) else ((num_size.f k la lb).bind fun t => (if t ≥ 0 then ((num_minus.f k la lb).bind fun t => ((num_of.f k a t).bind fun u => some (u.1, u.2.1, u.2.2))) else ((num_minus.f k lb la).bind fun t => ((num_of.f k b t).bind fun u => some (u.1, u.2.1, u.2.2)))))) (out s r) := by
  by_cases hab : a = b
  · subst hab
    obtain ⟨p, p1, p2, p3, p4⟩ := plus_ev la lb (by omega) (by omega) hLa hLb
    obtain ⟨r, h1, h2⟩ := of_out a p (by omega) p2
    refine ⟨a, r, ⟨h1.lim, h1.norm, ?_⟩, Evt.pos (by simp) (Evt.bind (h := fun t k => (num_of.f k a t).bind fun u => some (u.1, u.2.1, u.2.2)) p4 h2)⟩
    rw [h1.val, p3]
    unfold sg
    split <;> omega
  · have hz := size_ev la lb (by omega) hLa hLb na nb
    by_cases hge : Val.val 1000000000 lb ≤ Val.val 1000000000 la
    · obtain ⟨p, p1, p2, p3, p4⟩ := minus_ev la lb (by omega) hLa hLb nb hge
      obtain ⟨r, h1, h2⟩ := of_out a p (by omega) p2
      refine ⟨a, r, ⟨h1.lim, h1.norm, ?_⟩, Evt.neg (by simpa using hab) (Evt.bind (h := fun t k => if t ≥ 0 then ((num_minus.f k la lb).bind fun t => ((num_of.f k a t).bind fun u => some (u.1, u.2.1, u.2.2))) else ((num_minus.f k lb la).bind fun t => ((num_of.f k b t).bind fun u => some (u.1, u.2.1, u.2.2)))) hz (Evt.pos (cmpV_ge.2 hge) (Evt.bind (h := fun t k => (num_of.f k a t).bind fun u => some (u.1, u.2.1, u.2.2)) p4 h2)))⟩
      rw [h1.val, p3]
      unfold sg
      cases a <;> cases b <;> simp at hab ⊢ <;> omega
    · obtain ⟨p, p1, p2, p3, p4⟩ := minus_ev lb la (by omega) hLb hLa na (by omega)
      obtain ⟨r, h1, h2⟩ := of_out b p (by omega) p2
      refine ⟨b, r, ⟨h1.lim, h1.norm, ?_⟩, Evt.neg (by simpa using hab) (Evt.bind (h := fun t k => if t ≥ 0 then ((num_minus.f k la lb).bind fun t => ((num_of.f k a t).bind fun u => some (u.1, u.2.1, u.2.2))) else ((num_minus.f k lb la).bind fun t => ((num_of.f k b t).bind fun u => some (u.1, u.2.1, u.2.2)))) hz (Evt.neg (fun h => hge (cmpV_ge.1 h)) (Evt.bind (h := fun t k => (num_of.f k b t).bind fun u => some (u.1, u.2.1, u.2.2)) p4 h2)))⟩
      rw [h1.val, p3]
      unfold sg
      cases a <;> cases b <;> simp at hab ⊢ <;> omega
theorem add_ev (a b : Bool) (la lb : List Int) (ha : Snd a la) (hb : Snd b lb) (hLa : Lim 1000000000 la) (hLb : Lim 1000000000 lb) :
    ∃ s r, Is (sg a (Val.val 1000000000 la) + sg b (Val.val 1000000000 lb)) s r ∧ Evt (fun k => num_Add.f k a la b lb) (out s r) := by
  have h1 := ha.len
  have h2 := hb.len
  obtain ⟨s, r, h3, h4⟩ := add_core a b la lb (by omega) (by omega) hLa hLb ha.norm hb.norm
  refine ⟨s, r, h3, h4.congr fun k => ?_⟩
  obtain ⟨c, hc, hci⟩ := sounds a b la lb (by omega) (by omega)
  obtain rfl := hci.2 ⟨ha, hb⟩
  unfold num_Add.f
  rw [hc]
  rfl
theorem add_bad (a b : Bool) (la lb : List Int) (hla : la.length ≤ 4611686018427387904) (hlb : lb.length ≤ 4611686018427387904) (h : ¬ (Snd a la ∧ Snd b lb)) : ∀ k, num_Add.f k a la b lb = some (false, [], 2) := by
  intro k
  obtain ⟨c, hc, hci⟩ := sounds a b la lb hla hlb
  unfold num_Add.f
  rw [hc]
  cases c with
  | false => rfl
  | true => exact absurd (hci.1 rfl) h
theorem rsum_core (a b : Bool) (X Y : List Int) (hX : X.length ≤ 10000) (hY : Y.length ≤ 10000) (hLX : Lim 10 X) (hLY : Lim 10 Y) (nX : Norm X) (nY : Norm Y) :
    ∃ s r, Is (sg a (Val.val 10 X) + sg b (Val.val 10 Y)) s r ∧ Evt (fun k => (marginaliaref01_sum.f k a X b Y).bind fun t => ((marginaliaref01_give.f k t.1 t.2).bind fun u => some (u.1, u.2.1, u.2.2))) (out s r) := by
  by_cases hab : a = b
  · subst hab
    obtain ⟨p, p1, p2, _, p3, p4⟩ := rplus_ev X Y (by omega) (by omega) hLX hLY
    have hpl : p.length ≤ 1000000 := by
      by_cases h : p.length ≤ 1000000
      · exact h
      · have := rplus_len X Y p hX hY hLX hLY p2 ‹Norm p› p3
        omega
    obtain ⟨r, h1, h2⟩ := give_out a p hpl p2
    refine ⟨a, r, ⟨h1.lim, h1.norm, ?_⟩, Evt.bind (h := fun t k => (marginaliaref01_give.f k t.1 t.2).bind fun u => some (u.1, u.2.1, u.2.2)) (a := (a, p)) (Evt.pos (by simp) (Evt.bind (h := fun t _ => some (a, t)) p4 (Evt.some_ _))) h2⟩
    rw [h1.val, p3]
    unfold sg
    split <;> omega
  · have hz := more_ev X Y (by omega) hLX hLY nX nY
    by_cases hge : Val.val 10 Y ≤ Val.val 10 X
    · obtain ⟨p, p1, p2, pn, p3, p4⟩ := rminus_ev X Y (by omega) hLX hLY nY hge
      have hpl := (len_le_of_val (by omega) hLX p2 pn (by have := val_nonneg (by omega) hLY; omega))
      obtain ⟨r, h1, h2⟩ := give_out a p (by omega) p2
      refine ⟨a, r, ⟨h1.lim, h1.norm, ?_⟩, Evt.bind (h := fun t k => (marginaliaref01_give.f k t.1 t.2).bind fun u => some (u.1, u.2.1, u.2.2)) (a := (a, p)) (Evt.neg (by simpa using hab) (Evt.bind (h := fun t k => if t ≥ 0 then ((marginaliaref01_minus.f k X Y).bind fun t => some (a, t)) else ((marginaliaref01_minus.f k Y X).bind fun t => some (b, t))) hz (Evt.pos (cmpV_ge.2 hge) (Evt.bind (h := fun t _ => some (a, t)) p4 (Evt.some_ _))))) h2⟩
      rw [h1.val, p3]
      unfold sg
      cases a <;> cases b <;> simp at hab ⊢ <;> omega
    · obtain ⟨p, p1, p2, pn, p3, p4⟩ := rminus_ev Y X (by omega) hLY hLX nX (by omega)
      have hpl := (len_le_of_val (by omega) hLY p2 pn (by have := val_nonneg (by omega) hLX; omega))
      obtain ⟨r, h1, h2⟩ := give_out b p (by omega) p2
      refine ⟨b, r, ⟨h1.lim, h1.norm, ?_⟩, Evt.bind (h := fun t k => (marginaliaref01_give.f k t.1 t.2).bind fun u => some (u.1, u.2.1, u.2.2)) (a := (b, p)) (Evt.neg (by simpa using hab) (Evt.bind (h := fun t k => if t ≥ 0 then ((marginaliaref01_minus.f k X Y).bind fun t => some (a, t)) else ((marginaliaref01_minus.f k Y X).bind fun t => some (b, t))) hz (Evt.neg (fun h => hge (cmpV_ge.1 h)) (Evt.bind (h := fun t _ => some (b, t)) p4 (Evt.some_ _))))) h2⟩
      rw [h1.val, p3]
      unfold sg
      cases a <;> cases b <;> simp at hab ⊢ <;> omega
theorem radd_ev (a b : Bool) (la lb : List Int) (ha : Snd a la) (hb : Snd b lb) (hLa : Lim 1000000000 la) (hLb : Lim 1000000000 lb) :
    ∃ s r, Is (sg a (Val.val 1000000000 la) + sg b (Val.val 1000000000 lb)) s r ∧ Evt (fun k => marginaliaref01_Add.f k a la b lb) (out s r) := by
  have hla := ha.len
  have hlb := hb.len
  obtain ⟨X, x1, x2, x3, x5, x4⟩ := digits_ev a la (by omega) hLa
  obtain ⟨Y, y1, y2, y3, y5, y4⟩ := digits_ev b lb (by omega) hLb
  obtain ⟨s, r, h1, h2⟩ := rsum_core a b X Y (by omega) (by omega) x1 y1 x2 y2
  obtain ⟨b1, hb1, hi1⟩ := rsound_ev a la (by omega)
  obtain ⟨b2, hb2, hi2⟩ := rsound_ev b lb (by omega)
  obtain rfl := hi1.2 ha
  obtain rfl := hi2.2 hb
  refine ⟨s, r, by rw [x3, y3] at h1; exact h1, ?_⟩
  refine Evt.bind (g := fun k => marginaliaref01_Sound.f k a la) (h := fun t k => if t = true then (marginaliaref01_Sound.f k b lb).bind fun t2 => marginaliaref01_Add.j0 k (!t2) a la b lb else marginaliaref01_Add.j0 k true a la b lb) hb1 (Evt.pos rfl ?_)
  refine Evt.bind (h := fun t2 k => marginaliaref01_Add.j0 k (!t2) a la b lb) hb2 ?_
  refine Evt.step (h := fun k => (marginaliaref01_Digits.f k a la).bind fun X => (marginaliaref01_Digits.f k b lb).bind fun Y => (marginaliaref01_sum.f k a X b Y).bind fun t => ((marginaliaref01_give.f k t.1 t.2).bind fun u => some (u.1, u.2.1, u.2.2))) (fun k => ?_) ?_
  · simp only [marginaliaref01_Add.j0]
    rw [if_neg (by simp)]
  · refine Evt.bind (h := fun X k => (marginaliaref01_Digits.f k b lb).bind fun Y => (marginaliaref01_sum.f k a X b Y).bind fun t => ((marginaliaref01_give.f k t.1 t.2).bind fun u => some (u.1, u.2.1, u.2.2))) x4 ?_
    exact Evt.bind (h := fun Y k => (marginaliaref01_sum.f k a X b Y).bind fun t => ((marginaliaref01_give.f k t.1 t.2).bind fun u => some (u.1, u.2.1, u.2.2))) y4 h2
theorem radd_bad (a b : Bool) (la lb : List Int) (hla : la.length ≤ 4611686018427387904) (hlb : lb.length ≤ 4611686018427387904) (h : ¬ (Snd a la ∧ Snd b lb)) : Evt (fun k => marginaliaref01_Add.f k a la b lb) (false, [], 2) := by
  obtain ⟨b1, hb1, hi1⟩ := rsound_ev a la hla
  obtain ⟨b2, hb2, hi2⟩ := rsound_ev b lb hlb
  have hj : Evt (fun k => marginaliaref01_Add.j0 k true a la b lb) (false, [], 2) := Evt.of1 fun k => by simp [marginaliaref01_Add.j0]
  refine Evt.bind (g := fun k => marginaliaref01_Sound.f k a la) (h := fun t k => if t = true then (marginaliaref01_Sound.f k b lb).bind fun t2 => marginaliaref01_Add.j0 k (!t2) a la b lb else marginaliaref01_Add.j0 k true a la b lb) hb1 ?_
  cases b1 with
  | false => exact hj.congr fun k => by simp
  | true =>
    refine Evt.pos rfl (Evt.bind (h := fun t2 k => marginaliaref01_Add.j0 k (!t2) a la b lb) hb2 ?_)
    cases b2 with
    | false => exact hj.congr fun k => by simp
    | true => exact absurd ⟨hi1.1 rfl, hi2.1 rfl⟩ h
theorem sub_ev (a b : Bool) (la lb : List Int) (ha : Snd a la) (hb : Snd b lb) (hLa : Lim 1000000000 la) (hLb : Lim 1000000000 lb) :
    ∃ s r, Is (sg a (Val.val 1000000000 la) - sg b (Val.val 1000000000 lb)) s r ∧ Evt (fun k => num_Sub.f k a la b lb) (out s r) := by
  have hla := ha.len
  have hlb := hb.len
  have hneg : num_neg.f b lb = some (!b && decide (0 < lb.length), lb) := by unfold num_neg.f; cases b <;> simp
  have hs2 : Snd (!b && decide (0 < lb.length)) lb := ⟨hb.len, hb.lim, hb.norm, fun h => by subst h; simp⟩
  obtain ⟨s, r, h1, h2⟩ := add_ev a (!b && decide (0 < lb.length)) la lb ha hs2 hLa hLb
  have hv : sg (!b && decide (0 < lb.length)) (Val.val 1000000000 lb) = - sg b (Val.val 1000000000 lb) := by
    by_cases h0 : lb = []
    · subst h0; cases b <;> simp [sg, Val.val]
    · have hp : 0 < lb.length := List.length_pos_iff.2 h0
      cases b <;> simp [sg, hp]
  rw [hv] at h1
  refine ⟨s, r, h1, ?_⟩
  obtain ⟨c, hc, hci⟩ := sounds a b la lb (by omega) (by omega)
  obtain rfl := hci.2 ⟨ha, hb⟩
  refine (Evt.bind (h := fun t _ => some (t.1, t.2.1, t.2.2)) h2 (Evt.some_ _)).congr fun k => ?_
  unfold num_Sub.f
  rw [hc, hneg]
  rfl
theorem sub_bad (a b : Bool) (la lb : List Int) (hla : la.length ≤ 4611686018427387904) (hlb : lb.length ≤ 4611686018427387904) (h : ¬ (Snd a la ∧ Snd b lb)) : ∀ k, num_Sub.f k a la b lb = some (false, [], 2) := by
  intro k
  obtain ⟨c, hc, hci⟩ := sounds a b la lb hla hlb
  unfold num_Sub.f
  rw [hc]
  cases c with
  | false => rfl
  | true => exact absurd (hci.1 rfl) h
theorem rsub_ev (a b : Bool) (la lb : List Int) (ha : Snd a la) (hb : Snd b lb) (hLa : Lim 1000000000 la) (hLb : Lim 1000000000 lb) :
    ∃ s r, Is (sg a (Val.val 1000000000 la) - sg b (Val.val 1000000000 lb)) s r ∧ Evt (fun k => marginaliaref01_Sub.f k a la b lb) (out s r) := by
  have hla := ha.len
  have hlb := hb.len
  obtain ⟨X, x1, x2, x3, x5, x4⟩ := digits_ev a la (by omega) hLa
  obtain ⟨Y, y1, y2, y3, y5, y4⟩ := digits_ev b lb (by omega) hLb
  obtain ⟨s, r, h1, h2⟩ := rsum_core a (!b) X Y (by omega) (by omega) x1 y1 x2 y2
  obtain ⟨b1, hb1, hi1⟩ := rsound_ev a la (by omega)
  obtain ⟨b2, hb2, hi2⟩ := rsound_ev b lb (by omega)
  obtain rfl := hi1.2 ha
  obtain rfl := hi2.2 hb
  refine ⟨s, r, ?_, ?_⟩
  · rw [x3, y3] at h1
    have e : sg (!b) (Val.val 1000000000 lb) = - sg b (Val.val 1000000000 lb) := by cases b <;> simp [sg]
    rw [e] at h1
    exact h1
  refine Evt.bind (g := fun k => marginaliaref01_Sound.f k a la) (h := fun t k => if t = true then (marginaliaref01_Sound.f k b lb).bind fun t2 => marginaliaref01_Sub.j0 k (!t2) a la b lb else marginaliaref01_Sub.j0 k true a la b lb) hb1 (Evt.pos rfl ?_)
  refine Evt.bind (h := fun t2 k => marginaliaref01_Sub.j0 k (!t2) a la b lb) hb2 ?_
  refine Evt.step (h := fun k => (marginaliaref01_Digits.f k a la).bind fun X => (marginaliaref01_Digits.f k b lb).bind fun Y => (marginaliaref01_sum.f k a X (!b) Y).bind fun t => ((marginaliaref01_give.f k t.1 t.2).bind fun u => some (u.1, u.2.1, u.2.2))) (fun k => ?_) ?_
  · simp only [marginaliaref01_Sub.j0]
    rw [if_neg (by simp)]
  · refine Evt.bind (h := fun X k => (marginaliaref01_Digits.f k b lb).bind fun Y => (marginaliaref01_sum.f k a X (!b) Y).bind fun t => ((marginaliaref01_give.f k t.1 t.2).bind fun u => some (u.1, u.2.1, u.2.2))) x4 ?_
    exact Evt.bind (h := fun Y k => (marginaliaref01_sum.f k a X (!b) Y).bind fun t => ((marginaliaref01_give.f k t.1 t.2).bind fun u => some (u.1, u.2.1, u.2.2))) y4 h2
theorem rsub_bad (a b : Bool) (la lb : List Int) (hla : la.length ≤ 4611686018427387904) (hlb : lb.length ≤ 4611686018427387904) (h : ¬ (Snd a la ∧ Snd b lb)) : Evt (fun k => marginaliaref01_Sub.f k a la b lb) (false, [], 2) := by
  obtain ⟨b1, hb1, hi1⟩ := rsound_ev a la hla
  obtain ⟨b2, hb2, hi2⟩ := rsound_ev b lb hlb
  have hj : Evt (fun k => marginaliaref01_Sub.j0 k true a la b lb) (false, [], 2) := Evt.of1 fun k => by simp [marginaliaref01_Sub.j0]
  refine Evt.bind (g := fun k => marginaliaref01_Sound.f k a la) (h := fun t k => if t = true then (marginaliaref01_Sound.f k b lb).bind fun t2 => marginaliaref01_Sub.j0 k (!t2) a la b lb else marginaliaref01_Sub.j0 k true a la b lb) hb1 ?_
  cases b1 with
  | false => exact hj.congr fun k => by simp
  | true =>
    refine Evt.pos rfl (Evt.bind (h := fun t2 k => marginaliaref01_Sub.j0 k (!t2) a la b lb) hb2 ?_)
    cases b2 with
    | false => exact hj.congr fun k => by simp
    | true => exact absurd ⟨hi1.1 rfl, hi2.1 rfl⟩ h
end Go.Proofs.YtflmioakfboanaaDoor.PNumSums
end
section
namespace Go.Proofs.YtflmioakfboanaaDoor.PNumSums
open Go.RowKit Go.Proofs.YtflmioakfboanaaDoorW.PrintWords Go.Proofs.YtflmioakfboanaaDoorW.PrintLast Go.Proofs.YtflmioakfboanaaDoor.Val
def cmpS (a b : Bool) (x y : Int) : Int := if a = true then (if b = true then cmpV y x else -1) else (if b = true then 1 else cmpV x y)
theorem cmpV_neg (x y : Int) : wrap64 (-cmpV x y) = cmpV y x := by
  unfold cmpV
  split
  · rw [if_neg (by omega), if_neg (by omega)]; rw [wrap64_of (by omega) (by omega)]; rfl
  · split
    · rw [if_neg (by omega), if_pos (by omega)]; rw [wrap64_of (by omega) (by omega)]; rfl
    · rw [if_pos (by omega), wrap64_of (by omega) (by omega)]
theorem cmp_ev (a b : Bool) (la lb : List Int) (ha : Snd a la) (hb : Snd b lb) (hLa : Lim 1000000000 la) (hLb : Lim 1000000000 lb) :
    Evt (fun k => num_Cmp.f k a la b lb) (cmpS a b (Val.val 1000000000 la) (Val.val 1000000000 lb)) := by
  have hla := ha.len
  have hlb := hb.len
  have h1 := size_ev la lb (by omega) hLa hLb ha.norm hb.norm
  have h2 := size_ev lb la (by omega) hLb hLa hb.norm ha.norm
  obtain ⟨x, hx, hxi⟩ := sound_spec a la (by omega)
  obtain ⟨y, hy, hyi⟩ := sound_spec b lb (by omega)
  obtain rfl := hxi.2 ha
  obtain rfl := hyi.2 hb
  refine Evt.congr (h := fun k => num_Cmp.j0 k false a la b lb) ?_ fun k => by unfold num_Cmp.f; rw [hx, hy]; rfl
  unfold cmpS
  cases a with
  | true =>
    refine Evt.step (h := fun k => num_Cmp.j1 k b true la b lb) (fun k => by simp [num_Cmp.j0]) ?_
    cases b with
    | true => exact Evt.step (h := fun k => (num_size.f k lb la).bind fun t => some t) (fun k => by simp [num_Cmp.j1]) (Evt.bind (h := fun t _ => some t) h2 (Evt.some_ _))
    | false => exact Evt.of1 fun k => by simp [num_Cmp.j1]
  | false =>
    refine Evt.step (h := fun k => num_Cmp.j1 k false false la b lb) (fun k => by simp [num_Cmp.j0]) ?_
    cases b with
    | true => exact Evt.of1 fun k => by simp [num_Cmp.j1]
    | false => exact Evt.step (h := fun k => (num_size.f k la lb).bind fun t => some t) (fun k => by simp [num_Cmp.j1]) (Evt.bind (h := fun t _ => some t) h1 (Evt.some_ _))
theorem cmp_bad (a b : Bool) (la lb : List Int) (hla : la.length ≤ 4611686018427387904) (hlb : lb.length ≤ 4611686018427387904) (h : ¬ (Snd a la ∧ Snd b lb)) : Evt (fun k => num_Cmp.f k a la b lb) 0 := by
  obtain ⟨x, hx, hxi⟩ := sound_spec a la hla
  obtain ⟨y, hy, hyi⟩ := sound_spec b lb hlb
  refine Evt.of1 fun k => ?_
  unfold num_Cmp.f
  rw [hx, hy]
  cases x with
  | false => simp [num_Cmp.j0]
  | true =>
    cases y with
    | false => simp [num_Cmp.j0]
    | true => exact absurd ⟨hxi.1 rfl, hyi.1 rfl⟩ h
theorem rcmp_ev (a b : Bool) (la lb : List Int) (ha : Snd a la) (hb : Snd b lb) (hLa : Lim 1000000000 la) (hLb : Lim 1000000000 lb) :
    Evt (fun k => marginaliaref01_Cmp.f k a la b lb) (cmpS a b (Val.val 1000000000 la) (Val.val 1000000000 lb)) := by
  have hla := ha.len
  have hlb := hb.len
  obtain ⟨X, x1, x2, x3, x5, x4⟩ := digits_ev a la (by omega) hLa
  obtain ⟨Y, y1, y2, y3, y5, y4⟩ := digits_ev b lb (by omega) hLb
  have hm := more_ev X Y (by omega) x1 y1 x2 y2
  rw [x3, y3] at hm
  obtain ⟨b1, hb1, hi1⟩ := rsound_ev a la (by omega)
  obtain ⟨b2, hb2, hi2⟩ := rsound_ev b lb (by omega)
  obtain rfl := hi1.2 ha
  obtain rfl := hi2.2 hb
  refine Evt.bind (g := fun k => marginaliaref01_Sound.f k a la) (h := fun t k => if t = true then (marginaliaref01_Sound.f k b lb).bind fun t2 => marginaliaref01_Cmp.j0 k (!t2) a la b lb else marginaliaref01_Cmp.j0 k true a la b lb) hb1 (Evt.pos rfl ?_)
  refine Evt.bind (h := fun t2 k => marginaliaref01_Cmp.j0 k (!t2) a la b lb) hb2 ?_
  have hd : a = b → Evt (fun k => marginaliaref01_Cmp.j0 k (!true) a la b lb) (if a = true then wrap64 (-cmpV (Val.val 1000000000 la) (Val.val 1000000000 lb)) else cmpV (Val.val 1000000000 la) (Val.val 1000000000 lb)) := by
    intro hab
    refine Evt.step (h := fun k => (marginaliaref01_Digits.f k a la).bind fun X => (marginaliaref01_Digits.f k b lb).bind fun Y => (marginaliaref01_more.f k X Y).bind fun t => if a = true then some (wrap64 (-t)) else some t) (fun k => ?_) ?_
    · simp only [marginaliaref01_Cmp.j0]
      rw [if_neg (by simp), if_neg (by simp [hab])]
    · refine Evt.bind (h := fun X k => (marginaliaref01_Digits.f k b lb).bind fun Y => (marginaliaref01_more.f k X Y).bind fun t => if a = true then some (wrap64 (-t)) else some t) x4 ?_
      refine Evt.bind (h := fun Y k => (marginaliaref01_more.f k X Y).bind fun t => if a = true then some (wrap64 (-t)) else some t) y4 ?_
      exact Evt.bind (h := fun t _ => if a = true then some (wrap64 (-t)) else some t) hm (Evt.of fun k => by cases a <;> rfl)
  unfold cmpS
  cases a with
  | true =>
    cases b with
    | true => have h := hd rfl; rw [cmpV_neg] at h; exact h
    | false => exact Evt.of1 fun k => by simp [marginaliaref01_Cmp.j0]
  | false =>
    cases b with
    | true => exact Evt.of1 fun k => by simp [marginaliaref01_Cmp.j0]
    | false => exact hd rfl
theorem rcmp_bad (a b : Bool) (la lb : List Int) (hla : la.length ≤ 4611686018427387904) (hlb : lb.length ≤ 4611686018427387904) (h : ¬ (Snd a la ∧ Snd b lb)) : Evt (fun k => marginaliaref01_Cmp.f k a la b lb) 0 := by
  obtain ⟨b1, hb1, hi1⟩ := rsound_ev a la hla
  obtain ⟨b2, hb2, hi2⟩ := rsound_ev b lb hlb
  have hj : Evt (fun k => marginaliaref01_Cmp.j0 k true a la b lb) 0 := Evt.of1 fun k => by simp [marginaliaref01_Cmp.j0]
  refine Evt.bind (g := fun k => marginaliaref01_Sound.f k a la) (h := fun t k => if t = true then (marginaliaref01_Sound.f k b lb).bind fun t2 => marginaliaref01_Cmp.j0 k (!t2) a la b lb else marginaliaref01_Cmp.j0 k true a la b lb) hb1 ?_
  cases b1 with
  | false => exact hj.congr fun k => by simp
  | true =>
    refine Evt.pos rfl (Evt.bind (h := fun t2 k => marginaliaref01_Cmp.j0 k (!t2) a la b lb) hb2 ?_)
    cases b2 with
    | false => exact hj.congr fun k => by simp
    | true => exact absurd ⟨hi1.1 rfl, hi2.1 rfl⟩ h
end Go.Proofs.YtflmioakfboanaaDoor.PNumSums
end
section
namespace Go.Proofs.YtflmioakfboanaaDoor.Pure
open Go.RowKit Go.Proofs.YtflmioakfboanaaDoorW.PrintWords Go.Proofs.YtflmioakfboanaaDoorW.PrintLast Go.Proofs.YtflmioakfboanaaDoor.Val Go.Proofs.YtflmioakfboanaaDoor.PNumSums
theorem out_len (s : Bool) (r : List Int) : (out s r).2.1.length ≤ 64 := by
  unfold out
  split
  · simp
  · simp only; omega
theorem body (a b : Bool) (la lb : List Int) (ha : la.length ≤ 70) (hb : lb.length ≤ 70) (x y : Bool × List Int × Int) (c : Int) (hx1 : Evt (fun k => num_Add.f k a la b lb) x) (hx2 : Evt (fun k => marginaliaref01_Add.f k a la b lb) x)
    (hy1 : Evt (fun k => num_Sub.f k a la b lb) y) (hy2 : Evt (fun k => marginaliaref01_Sub.f k a la b lb) y) (hc1 : Evt (fun k => num_Cmp.f k a la b lb) c) (hc2 : Evt (fun k => marginaliaref01_Cmp.f k a la b lb) c)
    (hl : x.2.1.length ≤ 1000000) (hm : y.2.1.length ≤ 1000000) : Evt (fun k => marginalialaw01_NumSums.j0 k false a la b lb) true := by
  obtain ⟨k1, h1⟩ := hx1
  obtain ⟨k2, h2⟩ := hx2
  obtain ⟨k3, h3⟩ := hy1
  obtain ⟨k4, h4⟩ := hy2
  obtain ⟨k5, h5⟩ := hc1
  obtain ⟨k6, h6⟩ := hc2
  obtain ⟨k7, h7⟩ := same_refl x.1 x.2.1 (by omega)
  obtain ⟨k8, h8⟩ := same_refl y.1 y.2.1 (by omega)
  simp only at h1 h2 h3 h4 h5 h6 h7 h8
  refine ⟨k1 + k2 + k3 + k4 + k5 + k6 + k7 + k8 + 1, fun k hk => ?_⟩
  obtain ⟨k, rfl⟩ : ∃ m, k = m + 1 := ⟨k - 1, by omega⟩
  simp only [marginalialaw01_NumSums.j0]
  rw [if_neg (by simp), own_spec a la (by omega), own_spec b lb (by omega)]
  simp only [Option.bind_some]
  rw [h1 k (by omega)]
  simp only [Option.bind_some]
  rw [h2 k (by omega)]
  simp only [Option.bind_some]
  rw [h3 k (by omega)]
  simp only [Option.bind_some]
  rw [h4 k (by omega)]
  simp only [Option.bind_some]
  rw [h5 k (by omega)]
  simp only [Option.bind_some]
  rw [h6 k (by omega)]
  simp only [Option.bind_some, if_true]
  rw [h7 k (by omega)]
  simp only [Option.bind_some, if_true]
  rw [h8 k (by omega)]
  simp
theorem NumSums : marginalialaw01_NumSums.Pure := by
  intro a la b lb _ hwa _ hwb
  apply Evt.ex
  by_cases hla : la.length ≤ 70
  · by_cases hlb : lb.length ≤ 70
    · have key : Evt (fun k => marginalialaw01_NumSums.j0 k false a la b lb) true := by
        by_cases hs : Snd a la ∧ Snd b lb
        · have hLa := limZ hs.1.lim hwa
          have hLb := limZ hs.2.lim hwb
          obtain ⟨s, r, h1, h2⟩ := add_ev a b la lb hs.1 hs.2 hLa hLb
          obtain ⟨s', r', h1', h2'⟩ := radd_ev a b la lb hs.1 hs.2 hLa hLb
          obtain ⟨t, q, g1, g2⟩ := sub_ev a b la lb hs.1 hs.2 hLa hLb
          obtain ⟨t', q', g1', g2'⟩ := rsub_ev a b la lb hs.1 hs.2 hLa hLb
          rw [← h1.out_eq h1'] at h2'
          rw [← g1.out_eq g1'] at g2'
          exact body a b la lb hla hlb _ _ _ h2 h2' g2 g2' (cmp_ev a b la lb hs.1 hs.2 hLa hLb) (rcmp_ev a b la lb hs.1 hs.2 hLa hLb) (by have := out_len s r; omega) (by have := out_len t q; omega)
        · exact body a b la lb hla hlb _ _ _ (Evt.of (add_bad a b la lb (by omega) (by omega) hs)) (radd_bad a b la lb (by omega) (by omega) hs) (Evt.of (sub_bad a b la lb (by omega) (by omega) hs)) (rsub_bad a b la lb (by omega) (by omega) hs) (cmp_bad a b la lb (by omega) (by omega) hs) (rcmp_bad a b la lb (by omega) (by omega) hs) (by simp) (by simp)
      refine key.congr fun k => ?_
      unfold marginalialaw01_NumSums.f marginalialaw01_answers.f marginalialaw01_light.f
      have d1 : decide ((la.length : Int) ≤ 70) = true := decide_eq_true (by omega)
      have d2 : decide ((lb.length : Int) ≤ 70) = true := decide_eq_true (by omega)
      rw [d1, d2]
      rfl
    · refine Evt.of1 fun k => ?_
      unfold marginalialaw01_NumSums.f marginalialaw01_answers.f marginalialaw01_light.f
      have d1 : decide ((la.length : Int) ≤ 70) = true := decide_eq_true (by omega)
      have d2 : decide ((lb.length : Int) ≤ 70) = false := decide_eq_false (by omega)
      rw [d1, d2]
      simp [marginalialaw01_NumSums.j0, marginalialaw01_answers.f]
  · refine Evt.of1 fun k => ?_
    unfold marginalialaw01_NumSums.f marginalialaw01_answers.f marginalialaw01_light.f
    have d1 : decide ((la.length : Int) ≤ 70) = false := decide_eq_false (by omega)
    rw [d1]
    simp [marginalialaw01_NumSums.j0, marginalialaw01_answers.f]
end Go.Proofs.YtflmioakfboanaaDoor.Pure
end
section
namespace Go.Proofs.YtflmioakfboanaaDoor.Opn
open Go.ChangeShapes Go.WideShapes Go.ChangeAt Go.RowKit Go.Proofs.YtflmioakfboanaaDoorW.PrintWords
theorem ints {H : Type} {enc : TypeId × Value → H} {P : Program} {W : World} {base : Nat} {spare : Nat → Bool} {held : Bool} {n : Nat} {t e : TypeId} {k : IntKind} {v : Value} {y : DataW H × List MemPlace}
    (hu : P.underlying t = some (.slice e)) (he : P.underlying e = some (.int k)) (hc : P.cellsOf e = 1) (h : DataW.trod enc P W base spare held n t [v] = some y) :
    ∃ (A : Option Addr) (l : List Int) (c : Nat), v = .slice A l.length c ∧ Kd.C (Kd.int k) W A l.length l ∧ l.length ≤ c ∧ l.length ≤ maxLen ∧ ∀ x ∈ l, (Lit.int k x).wf = true := by
  rcases open_ints hu he hc h with ⟨hcs, _⟩ | ⟨x, l, c, zs, hcs, _, hl, hm, hz, _, hcell, hwz⟩
  · have hv : v = .slice none 0 0 := by simpa using hcs
    refine ⟨none, [], 0, hv, ?_, Nat.le_refl _, Nat.zero_le _, by simp⟩
    exact Kd.C_of_reads (d := (0 : Int)) (h1 := fun _ => rfl) ⟨rfl, by simp, fun hp => absurd hp (by simp)⟩
  · have hv : v = .slice (some x) l c := by simpa using hcs
    have hlz : l ≤ zs.length := by rw [hz]; split <;> omega
    have hlen : (zs.take l).length = l := by simp; omega
    refine ⟨some x, zs.take l, c, by rw [hlen]; exact hv, ?_, by rw [hlen]; exact hl, by rw [hlen]; omega, fun y hy => hwz y (List.mem_of_mem_take hy)⟩
    rw [hlen]
    refine Kd.C_of_reads (d := (0 : Int)) (h1 := fun _ => rfl) ⟨hlen, by unfold maxLen at hm; omega, fun hp => ⟨x, rfl, fun j hj => ?_⟩⟩
    rw [hcell j (by omega)]
    simp [List.getD_eq_getElem?_getD, hj]
end Go.Proofs.YtflmioakfboanaaDoor.Opn
end
section
set_option linter.unusedVariables false
namespace Go.Proofs.YtflmioakfboanaaDoor.numSums
open Go.ChangeShapes Go.WideShapes Go.ChangeAt Go.RowKit Go.Joins
open Go.ChangeMaps (open_string shut_string)
open Go.Proofs.YtflmioakfboanaaDoorW
theorem own : ownKnob Tryd.prog.godebug = none := by kernel_rfl
theorem laidOut : laidOutB Tryd.prog = true := by kernel_rfl
set_option maxRecDepth 100000 in
theorem door_met (os : Os) (args : Array Value) : laidMetH Tryd.prog Rows.numSumsRow.laid ((World.doorLaid Tryd.prog 400 os).forCall (fun _ _ => 0) ⟨#[], args, []⟩).memory :=
  laidMetH_of_parts3 (fuel := 8) (laidMet_of_run' 8 (by kernel_rfl) (by kernel_rfl)) (by kernel_rfl) (by kernel_rfl)
set_option maxRecDepth 100000 in
theorem lifted (os : Os) (started : os.Started) (H : Type) (enc : TypeId × Value → H) :
    ReturnsInHanded {} Tryd.checked os 4 .any (fun w args => (Rows.numSumsSpec.pre enc Tryd.prog Tryd.f4 Rows.numSumsRow.domain false w args ∧ laidMetH Tryd.prog Rows.numSumsRow.laid w) ∧ sizedMet enc Tryd.prog Tryd.f4 (OpenSpec.ofChange Rows.numSumsSpec) false w args)
      (Rows.numSumsSpec.post enc Tryd.prog Tryd.f4 false true false false) := by
  refine returnsInHanded_of_change_and (C := Tryd.checked) (X := fun w _ => laidMetH Tryd.prog Rows.numSumsRow.laid w) (fun _ _ _ hh h => h.of_heap hh) own started (by kernel_rfl) Tryd.func4
    (ChangeSpec.witness_shaped (enc := enc) (C := Tryd.checked) (os := os) (X := fun w _ => laidMetH Tryd.prog Rows.numSumsRow.laid w) false (World.doorLaid Tryd.prog 400 os) #[.agg #[.bool false, .slice none 0 0], .agg #[.bool false, .slice none 0 0]] 8 rfl (World.shaped_of_RefB (by kernel_rfl) (by kernel_rfl)) (by kernel_rfl) (by kernel_rfl) (by kernel_rfl) (door_met os _)) ?_
  intro W base args ds gs before hval0 hW hcnd hsz0 hL _
  have hsz : (DataW.weightsEach Tryd.prog (Tryd.f4.params.toList ++ Rows.numSumsSpec.plain.varTypes Tryd.prog) (ds ++ gs)).all (· ≤ reachBytes) = true := hsz0
  have hval : ∀ (j : Nat) t v, Tryd.f4.params[j]? = some t → args[j]? = some v → Value.okWide Tryd.prog W .any base t v := hval0
  have hW' := hW
  obtain ⟨p, q, hA0, hV, rfl, hfz, hnd⟩ := hW
  have hA : DataW.TrodAll enc Tryd.prog W 0 (fun _ => true) true Tryd.f4.params.toList args.toList ds p := hA0
  rw [Tryd.params4] at hA hval hsz
  obtain ⟨v0, vs0, d0, ds0, p0, q0, hargs, rfl, rfl, h0, r0⟩ := trodAll_cons hA
  obtain ⟨v1, vs1, d1, ds1, p1, q1, rfl, rfl, rfl, h1, r1⟩ := trodAll_cons r0
  obtain ⟨rfl, rfl, rfl⟩ := trodAll_nil r1
  obtain rfl : args = #[v0, v1] := by cases args; simp_all
  obtain ⟨rfl, rfl⟩ := trodVars_none hV
  have k0 := h0
  have lt0 : ∀ x ∈ p0, x.block < W.heap.size := by obtain ⟨m, hm⟩ := k0; exact DataW.trod_lt m _ _ _ hm
  obtain ⟨v0_0, v0_1, y0_0, y0_1, m0, rfl, rfl, rfl, t0_0, t0_1⟩ := open_agg2 Tryd.underlying24 (by kernel_rfl) (by kernel_rfl) (hval 0 24 v0 rfl rfl) h0
  obtain ⟨a0_0, e0_0, _⟩ := DataW.trod_bool Tryd.underlying4 t0_0
  obtain rfl : v0_0 = .bool a0_0 := by simpa using e0_0
  obtain ⟨A0_1, l0_1, c0_1, rfl, hr0_1, hc0_1, hm0_1, hw0_1⟩ := Opn.ints Tryd.underlying22 Tryd.underlying48 (by kernel_rfl) t0_1
  have k1 := h1
  have lt1 : ∀ x ∈ p1, x.block < W.heap.size := by obtain ⟨m, hm⟩ := k1; exact DataW.trod_lt m _ _ _ hm
  obtain ⟨v1_0, v1_1, y1_0, y1_1, m1, rfl, rfl, rfl, t1_0, t1_1⟩ := open_agg2 Tryd.underlying24 (by kernel_rfl) (by kernel_rfl) (hval 1 24 v1 rfl rfl) h1
  obtain ⟨a1_0, e1_0, _⟩ := DataW.trod_bool Tryd.underlying4 t1_0
  obtain rfl : v1_0 = .bool a1_0 := by simpa using e1_0
  obtain ⟨A1_1, l1_1, c1_1, rfl, hr1_1, hc1_1, hm1_1, hw1_1⟩ := Opn.ints Tryd.underlying22 Tryd.underlying48 (by kernel_rfl) t1_1
  clear hA0 hval0 hsz0 hsz
  obtain ⟨k, hk⟩ := Pure.NumSums a0_0 l0_1 a1_0 l1_1 hm0_1 hw0_1 hm1_1 hw1_1
  refine (PNumSums.marginalialaw01_NumSums.calls k a0_0 _ _ l0_1 a1_0 _ _ l1_1 true W hr0_1 hc0_1 hr1_1 hc1_1 hk).mono fun e W' ⟨he, bel0⟩ => ?_
  have bel : Below W.heap.size W W' := bel0
  subst he
  exact ⟨_, rfl, _, _, _, [], _, [], hW', trodAll_mk1 (shut_bool Tryd.underlying4 _), (trodAll_cons_mk (Below.trod laidOut (by kernel_rfl) (of_decide_eq_true (by kernel_rfl)) k0 bel lt0) (trodAll_cons_mk (Below.trod laidOut (by kernel_rfl) (of_decide_eq_true (by kernel_rfl)) k1 bel lt1) trodAll_mk0)), rfl, bel.frame _, fun h => by cases h⟩
theorem over : Rows.numSumsRow.holds Tryd.pinned (OpenSpec.ofChange Rows.numSumsSpec) :=
  OpenClaim.holds_of_wide 4 Tryd.f4 rfl rfl rfl rfl rfl rfl rfl ⟨rfl, rfl, rfl, rfl, rfl⟩ rfl rfl rfl rfl rfl (by kernel_rfl) Tryd.func4 (by kernel_rfl)
    (of_decide_eq_true (by kernel_rfl)) (by unfold Func.isWrapper; first | (rw [if_pos (by decide +kernel)]; kernel_rfl) | (rw [if_neg (by decide +kernel)]; exact ⟨rfl, rfl⟩))
    (fun os started H enc _ => lifted os started H enc)
theorem proved : Rows.NumSumsCardSaid :=
  Claim7.holds_tied_plain_at .later [] [.data, .data, .data] true (true, "c882deb6c08a6e4fc319056acccbaaa87bfe25e16c1c8d476e088865a2e3e750") true
    over (fun _ h => by cases h) (by kernel_rfl) (fun _ h => by cases h) numSums_row_tie rfl ⟨rfl, rfl⟩ (by kernel_rfl) rfl
    (fun f fn hf hfn => by
      obtain rfl : f = 4 := Option.some.inj ((show Tryd.prog.funcNamed "marginalia/marginalialaw01.NumSums" = some 4 by kernel_rfl).symm.trans hf) |>.symm
      obtain rfl : fn = Tryd.f4 := (Option.some.inj (Tryd.func4.symm.trans hfn)).symm
      exact ⟨by kernel_rfl, fun j t ht => by
        rw [Tryd.params4] at ht
        have hm : t ∈ [24, 24] := by simpa using Array.mem_of_getElem? ht
        have hall : ([24, 24].all fun u => !Tryd.prog.wantsStandIn u) = true := by kernel_rfl
        exact (show Tryd.prog.wantsStandIn t = false by simpa using List.all_eq_true.1 hall t hm)⟩)
    (by kernel_rfl)
end Go.Proofs.YtflmioakfboanaaDoor.numSums
namespace Go.Proofs.YtflmioakfboanaaDoor
theorem numSums_holds : Rows.NumSumsCardSaid := numSums.proved
end Go.Proofs.YtflmioakfboanaaDoor
end
