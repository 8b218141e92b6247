/-
  The product of two numbers: by limbs, and by digits, is the product of their values.
-/
import Derived.Test.YtflmioakfboanaaDoorNumDigNumTimes
namespace Go.Proofs.YtflmioakfboanaaDoor.PNumTimes
open Go.RowKit Go.Proofs.YtflmioakfboanaaDoorW.PrintWords Go.Proofs.YtflmioakfboanaaDoorW.PrintLast Go.Proofs.YtflmioakfboanaaDoor.Val

/-- Two sound numbers have the same answers, if they have one value and one sign. -/
theorem same_of {l m : List Int} (hl : Lim 1000000000 l) (hm : Lim 1000000000 m) (nl : Norm l) (nm : Norm m) (h : val 1000000000 l = val 1000000000 m) : l = m := uniq (by omega) hl hm nl nm h

theorem ring_mul (o p O X Y c q v : Int) : o + p * ((O + X * Y + c - 1000000000 * q) - O) + p * 1000000000 * (q + X * v) = o + p * (c + X * (Y + 1000000000 * v)) := by grind
theorem ring_rmul (o p O x y v : Int) : o + p * (O + x * y - O) + p * 10 * (x * v) = o + p * (x * (y + 10 * v)) := by grind
theorem ring_carry (s p c O q v : Int) : s + p * (c + O - 10 * q) + p * 10 * (q + v) = s + p * (c + (O + 10 * v)) := by grind
theorem ring_snoc (v b p x : Int) : v * b + p * (x * b) = (v + p * x) * b := by grind
theorem mul_inner (na nb : Bool) (la lb : List Int) (hla : la.length ≤ 64) (hlb : lb.length ≤ 64) (hLa : Lim 1000000000 la) (hLb : Lim 1000000000 lb) (i : Nat) (hi : i < la.length) (X : Int) (hX0 : 0 ≤ X) (hX1 : X < 1000000000) :
    ∀ (d j : Nat) (out : List Int) (carry : Int), j + d = lb.length → out.length = la.length + lb.length → Lim 1000000000 out → 0 ≤ carry → carry < 1000000000 →
    ∃ out', out'.length = la.length + lb.length ∧ Lim 1000000000 out' ∧ (∀ q, i + lb.length < q → q < out.length → rd out' (q : Int) = rd out (q : Int)) ∧
      (rd out ((i + lb.length : Nat) : Int) = 0 → val 1000000000 out' = val 1000000000 out + 1000000000 ^ (i + j) * (carry + X * val 1000000000 (lb.drop j))) ∧
      ∀ r, Evt (fun k => num_Mul.l0 k out' la (la.length : Int) ((i + 1 : Nat) : Int) na la nb lb) r → Evt (fun k => num_Mul.l1 k out (i : Int) X carry la (la.length : Int) (i : Int) lb (lb.length : Int) (j : Int) na la nb lb) r
  | 0, j, out, carry, hj, hlen, hL, hc0, hc1 => by
    refine ⟨out.set (i + lb.length) carry, by simp [hlen], hL.set _ _ hc0 hc1, fun q hq hq2 => ?_, fun h0 => ?_, fun r hr => Evt.step (fun k => ?_) hr⟩
    · rw [rd_at _ q (by simp; omega), rd_at _ q (by omega), List.getElem_set_ne (by omega)]
    · rw [val_set _ _ _ (by omega), h0, show i + j = i + lb.length from by omega, List.drop_of_length_le (by omega)]
      simp [val]
    · simp only [num_Mul.l1]
      rw [if_neg (by omega), w_add i lb.length (by omega), if_pos (by omega), if_pos (by omega), w_succ i (by omega), Int.toNat_natCast]
      have e3 : carry % 4294967296 = carry := by omega
      rw [e3]
  | d + 1, j, out, carry, hj, hlen, hL, hc0, hc1 => by
    have ho := hL.rd ((i + j : Nat) : Int) (by omega) (by omega)
    have hy := hLb.rd (j : Int) (by omega) (by omega)
    generalize hO : rd out ((i + j : Nat) : Int) = O at ho
    generalize hY : rd lb (j : Int) = Y at hy
    have hxy0 : 0 ≤ X * Y := Int.mul_nonneg hX0 hy.1
    have hxy1 : X * Y ≤ 999999999 * 999999999 := Int.mul_le_mul (by omega) (by omega) hy.1 (by omega)
    generalize hM : X * Y = M at hxy0 hxy1
    have hT0 : 0 ≤ O + M + carry := by omega
    let T := O + M + carry
    have hTdef : T = O + M + carry := rfl
    have hT : 1000000000 * (T / 1000000000) + T % 1000000000 = T := Int.mul_ediv_add_emod _ _
    obtain ⟨out', h1, h2, h3, h4, h5⟩ := mul_inner na nb la lb hla hlb hLa hLb i hi X hX0 hX1 d (j + 1) (out.set (i + j) (T % 1000000000)) (T / 1000000000) (by omega) (by simp [hlen]) (hL.set _ _ (by omega) (by omega)) (by omega) (by omega)
    refine ⟨out', h1, h2, fun q hq hq2 => ?_, fun h0 => ?_, fun r hr => Evt.step (fun k => ?_) (h5 r hr)⟩
    · rw [h3 q hq (by simpa using hq2), rd_at _ q (by simpa using hq2), rd_at _ q hq2, List.getElem_set_ne (by omega)]
    · have h0' : rd (out.set (i + j) (T % 1000000000)) ((i + lb.length : Nat) : Int) = 0 := by
        rw [rd_at _ _ (by simp; omega), List.getElem_set_ne (by omega), ← rd_at _ _ (by omega)]
        exact h0
      rw [h4 h0', val_set _ _ _ (by omega), hO]
      have e : lb.drop j = Y :: lb.drop (j + 1) := by
        rw [List.drop_eq_getElem_cons (by omega), ← rd_at lb j (by omega), hY]
      rw [e]
      simp only [val]
      have e2 : (1000000000 : Int) ^ (i + (j + 1)) = 1000000000 ^ (i + j) * 1000000000 := by rw [show i + (j + 1) = i + j + 1 from by omega, Int.pow_succ]
      rw [e2]
      generalize (1000000000 : Int) ^ (i + j) = p
      generalize val 1000000000 (lb.drop (j + 1)) = v
      generalize T / 1000000000 = q at hT
      generalize T % 1000000000 = m at hT
      have hT2 : m = O + X * Y + carry - 1000000000 * q := by rw [hM]; omega
      rw [hT2]
      exact ring_mul _ _ _ _ _ _ _ _
    · simp only [num_Mul.l1]
      rw [if_pos (by omega), if_pos (by omega), if_pos (by omega), w_add i j (by omega), if_pos (by omega), if_pos (by omega), w_succ j (by omega), hO, hY]
      rw [wrapu64_of (x := O) (by omega) (by omega), wrapu64_of (x := X) (by omega) (by omega), wrapu64_of (x := Y) (by omega) (by omega), hM]
      rw [wrapu64_of (x := M) (by omega) (by omega), wrapu64_of (x := O + M) (by omega) (by omega), wrapu64_of (x := O + M + carry) (by omega) (by omega)]
      rw [Int.tmod_eq_emod_of_nonneg hT0, Int.tdiv_eq_ediv_of_nonneg hT0, wrapu64_of (by omega) (by omega), ← hTdef]
      have e4 : T % 1000000000 % 4294967296 = T % 1000000000 := by omega
      rw [e4, Int.toNat_natCast]

theorem mul_outer (na nb : Bool) (la lb : List Int) (hla : la.length ≤ 64) (hlb : lb.length ≤ 64) (hLa : Lim 1000000000 la) (hLb : Lim 1000000000 lb) :
    ∀ (d i : Nat) (out : List Int), i + d = la.length → out.length = la.length + lb.length → Lim 1000000000 out → (∀ q, i + lb.length ≤ q → q < out.length → rd out (q : Int) = 0) → val 1000000000 out = val 1000000000 (la.take i) * val 1000000000 lb →
    ∃ r, Lim 1000000000 r ∧ Norm r ∧ val 1000000000 r = val 1000000000 la * val 1000000000 lb ∧ Evt (fun k => num_Mul.l0 k out la (la.length : Int) (i : Int) na la nb lb) (if r.length > 64 then (false, [], 6) else ((na != nb) && decide (0 < r.length), r, 0))
  | 0, i, out, hi, hlen, hL, hz, hv => by
    obtain ⟨r, hc, hr⟩ := of_ev (na != nb) out (by omega)
    refine ⟨r, hc.lim hL, hc.norm, by rw [hc.val, hv, List.take_of_length_le (by omega)], ?_⟩
    refine Evt.step (h := fun k => (num_of.f k (na != nb) out).bind fun t => some (t.1, t.2.1, t.2.2)) (fun k => ?_) (Evt.bind hr (Evt.of fun _ => rfl))
    simp only [num_Mul.l0]
    rw [if_neg (by omega)]
  | d + 1, i, out, hi, hlen, hL, hz, hv => by
    have hx := hLa.rd (i : Int) (by omega) (by omega)
    obtain ⟨out', h1, h2, h3, h4, h5⟩ := mul_inner na nb la lb hla hlb hLa hLb i (by omega) (rd la (i : Int)) hx.1 hx.2 lb.length 0 out 0 (by omega) hlen hL (by omega) (by omega)
    have h0 := hz (i + lb.length) (Nat.le_refl _) (by omega)
    obtain ⟨r, g1, g2, g3, g4⟩ := mul_outer na nb la lb hla hlb hLa hLb d (i + 1) out' (by omega) h1 h2 (fun q hq hq2 => by rw [h3 q (by omega) (by omega)]; exact hz q (by omega) (by omega)) (by
      rw [h4 h0, hv, List.take_succ_eq_append_getElem (by omega), val_snoc, ← rd_at la i (by omega), List.length_take, Nat.min_eq_left (by omega)]
      simp only [Nat.add_zero, List.drop_zero, Int.zero_add]
      exact ring_snoc _ _ _ _)
    refine ⟨r, g1, g2, g3, Evt.step (h := fun k => num_Mul.l1 k out (i : Int) (rd la (i : Int)) 0 la (la.length : Int) (i : Int) lb (lb.length : Int) 0 na la nb lb) (fun k => ?_) (h5 _ g4)⟩
    simp only [num_Mul.l0]
    rw [if_pos (by omega), if_pos (by omega), if_pos (by omega)]

/-- The product by limbs. -/
theorem mul_ev (na nb : Bool) (la lb : List Int) (ha : Snd na la) (hb : Snd nb lb) (hLa : Lim 1000000000 la) (hLb : Lim 1000000000 lb) :
    ∃ r, Lim 1000000000 r ∧ Norm r ∧ val 1000000000 r = val 1000000000 la * val 1000000000 lb ∧ Evt (fun k => num_Mul.f k na la nb lb) (if r.length > 64 then (false, [], 6) else ((na != nb) && decide (0 < r.length), r, 0)) := by
  have hla := ha.len
  have hlb := hb.len
  obtain ⟨r, g1, g2, g3, g4⟩ := mul_outer na nb la lb hla hlb hLa hLb la.length 0 (List.replicate (la.length + lb.length) 0) (by omega) (by simp) (Lim.replicate (by omega) _) (fun q _ hq2 => by
    rw [rd_at _ _ hq2]; simp) (by rw [val_replicate]; simp [val])
  refine ⟨r, g1, g2, g3, g4.congr fun k => ?_⟩
  obtain ⟨x, hx, hxi⟩ := sound_spec na la (by omega)
  obtain ⟨y, hy, hyi⟩ := sound_spec nb lb (by omega)
  unfold num_Mul.f num_sound.f
  rw [hx, hy, hxi.2 ha, hyi.2 hb, w_add la.length lb.length (by omega)]
  simp only [Option.bind_some, if_true]
  rw [if_pos (by omega), Int.toNat_natCast, if_pos (by omega)]
  rfl
theorem mul_bad (na nb : Bool) (la lb : List Int) (hla : la.length ≤ 4611686018427387904) (hlb : lb.length ≤ 4611686018427387904) (h : ¬ (Snd na la ∧ Snd nb lb)) : ∀ k, num_Mul.f k na la nb lb = some (false, [], 2) := by
  intro k
  obtain ⟨x, hx, hxi⟩ := sound_spec na la hla
  obtain ⟨y, hy, hyi⟩ := sound_spec nb lb hlb
  unfold num_Mul.f num_sound.f
  rw [hx, hy]
  cases x with
  | false => simp
  | true =>
    cases y with
    | false => simp
    | true => exact absurd ⟨hxi.1 rfl, hyi.1 rfl⟩ h

theorem rmul_inner (na nb : Bool) (la lb X Y : List Int) (hX : X.length ≤ 1000) (hY : Y.length ≤ 1000) (hLX : Lim 10 X) (hLY : Lim 10 Y) (i : Nat) (hi : i < X.length) (M : Int) (hM : M ≤ 1000000) :
    ∀ (d j : Nat) (out : List Int), j + d = Y.length → out.length = X.length + Y.length + 1 → (∀ q, q < out.length → 0 ≤ rd out (q : Int) ∧ rd out (q : Int) ≤ M + (if i ≤ q ∧ q < i + j then 81 else 0)) → M + 81 ≤ 1000000 →
    ∃ out', out'.length = X.length + Y.length + 1 ∧ (∀ q, q < out.length → 0 ≤ rd out' (q : Int) ∧ rd out' (q : Int) ≤ M + 81) ∧ val 10 out' = val 10 out + 10 ^ (i + j) * (rd X (i : Int) * val 10 (Y.drop j)) ∧
      ∀ r, Evt (fun k => marginaliaref01_Mul.l0 k X Y out' ((i + 1 : Nat) : Int) na la nb lb) r → Evt (fun k => marginaliaref01_Mul.l1 k X Y out (i : Int) (j : Int) na la nb lb) r
  | 0, j, out, hj, hlen, hb, hM2 => by
    refine ⟨out, hlen, fun q hq => ⟨(hb q hq).1, ?_⟩, ?_, fun r hr => Evt.step (fun k => ?_) hr⟩
    · have := (hb q hq).2; split at this <;> omega
    · rw [List.drop_of_length_le (by omega)]; simp [val]
    · simp only [marginaliaref01_Mul.l1]
      rw [if_neg (by omega), w_succ i (by omega)]
  | d + 1, j, out, hj, hlen, hb, hM2 => by
    have ho := hb (i + j) (by omega)
    rw [if_neg (by omega)] at ho
    have hx := hLX.rd (i : Int) (by omega) (by omega)
    have hy := hLY.rd (j : Int) (by omega) (by omega)
    generalize hO : rd out ((i + j : Nat) : Int) = O at ho
    generalize hxx : rd X (i : Int) = x at hx
    generalize hyy : rd Y (j : Int) = y at hy
    have hxy0 : 0 ≤ x * y := Int.mul_nonneg hx.1 hy.1
    have hxy1 : x * y ≤ 9 * 9 := Int.mul_le_mul (by omega) (by omega) hy.1 (by omega)
    obtain ⟨out', h1, h2, h3, h4⟩ := rmul_inner na nb la lb X Y hX hY hLX hLY i hi M hM d (j + 1) (out.set (i + j) (O + x * y)) (by omega) (by simp [hlen]) (fun q hq => by
      have hq' : q < out.length := by simpa using hq
      by_cases e : q = i + j
      · subst e
        rw [rd_at _ _ hq, List.getElem_set_self, if_pos (by omega)]
        omega
      · rw [rd_at _ _ hq, List.getElem_set_ne (by omega), ← rd_at _ _ hq']
        have := hb q hq'
        refine ⟨this.1, Int.le_trans this.2 ?_⟩
        split <;> split <;> omega) hM2
    refine ⟨out', h1, fun q hq => h2 q (by simpa using hq), ?_, fun r hr => Evt.step (fun k => ?_) (h4 r hr)⟩
    · rw [h3, val_set _ _ _ (by omega), hO, hxx]
      have e : Y.drop j = y :: Y.drop (j + 1) := by rw [List.drop_eq_getElem_cons (by omega), ← rd_at Y j (by omega), hyy]
      rw [e]
      simp only [val]
      have e2 : (10 : Int) ^ (i + (j + 1)) = 10 ^ (i + j) * 10 := by rw [show i + (j + 1) = i + j + 1 from by omega, Int.pow_succ]
      rw [e2]
      exact ring_rmul _ _ _ _ _ _
    · simp only [marginaliaref01_Mul.l1]
      rw [if_pos (by omega), w_add i j (by omega), if_pos (by omega), if_pos (by omega), if_pos (by omega), if_pos (by omega), if_pos (by omega), w_succ j (by omega), hO, hxx, hyy, Int.toNat_natCast]
      rw [wrap64_of (x := x) (by omega) (by omega), wrap64_of (x := y) (by omega) (by omega), wrap64_of (x := x * y) (by omega) (by omega), wrap64_of (x := O + x * y) (by omega) (by omega)]

/-- Carrying: sums of products of digits become digits. -/
theorem rmul_carry (na nb : Bool) (la lb : List Int) (out : List Int) (hlen : out.length ≤ 10000) (hb : ∀ q, q < out.length → 0 ≤ rd out (q : Int) ∧ rd out (q : Int) ≤ 1000000) :
    ∀ (d i : Nat) (ds : List Int) (c : Int), i + d = out.length → ds.length = i → Lim 10 ds → 0 ≤ c → c ≤ 1000000 →
    ∃ D : List Int, D.length = out.length ∧ Lim 10 D ∧ (∃ c', 0 ≤ c' ∧ val 10 D + 10 ^ out.length * c' = val 10 ds + 10 ^ i * (c + val 10 (out.drop i))) ∧
      ∀ r, Evt (fun k => (marginaliaref01_give.f k (na != nb) D).bind fun t => some (t.1, t.2.1, t.2.2)) r → Evt (fun k => marginaliaref01_Mul.l2 k out ds c (i : Int) na la nb lb) r
  | 0, i, ds, c, hi, hl, hL, hc0, hc1 => by
    refine ⟨ds, by omega, hL, ⟨c, hc0, ?_⟩, fun r hr => Evt.step (fun k => ?_) hr⟩
    · rw [List.drop_of_length_le (by omega), show out.length = i from by omega]; simp [val]
    · simp only [marginaliaref01_Mul.l2]
      rw [if_neg (by omega)]
  | d + 1, i, ds, c, hi, hl, hL, hc0, hc1 => by
    have ho := hb i (by omega)
    generalize hO : rd out (i : Int) = O at ho
    have hT : 10 * ((c + O) / 10) + (c + O) % 10 = c + O := Int.mul_ediv_add_emod _ _
    obtain ⟨D, h1, h2, ⟨c', h3, h4⟩, h5⟩ := rmul_carry na nb la lb out hlen hb d (i + 1) (ds ++ [(c + O) % 10]) ((c + O) / 10) (by omega) (by simp [hl]) (hL.snoc (by omega) (by omega)) (by omega) (by omega)
    refine ⟨D, h1, h2, ⟨c', h3, ?_⟩, fun r hr => Evt.step (fun k => ?_) (h5 r hr)⟩
    · rw [h4, val_snoc, hl]
      have e : out.drop i = O :: out.drop (i + 1) := by rw [List.drop_eq_getElem_cons (by omega), ← rd_at out i (by omega), hO]
      rw [e]
      simp only [val]
      rw [Int.pow_succ]
      generalize (c + O) / 10 = q at hT
      generalize (c + O) % 10 = m at hT
      have hm : m = c + O - 10 * q := by omega
      rw [hm]
      exact ring_carry _ _ _ _ _ _
    · simp only [marginaliaref01_Mul.l2]
      rw [if_pos (by omega), if_pos (by omega), if_pos (by omega), w_succ i (by omega), hO, wrap64_of (x := c + O) (by omega) (by omega), Int.tmod_eq_emod_of_nonneg (by omega), Int.tdiv_eq_ediv_of_nonneg (by omega), wrap64_of (by omega) (by omega)]
      have e4 : (c + O) % 10 % 256 = (c + O) % 10 := by omega
      rw [e4]

theorem rmul_outer (na nb : Bool) (la lb X Y : List Int) (hX : X.length ≤ 1000) (hY : Y.length ≤ 1000) (hLX : Lim 10 X) (hLY : Lim 10 Y) :
    ∀ (d i : Nat) (out : List Int), i + d = X.length → out.length = X.length + Y.length + 1 → (∀ q, q < out.length → 0 ≤ rd out (q : Int) ∧ rd out (q : Int) ≤ 81 * (i : Int)) → val 10 out = val 10 (X.take i) * val 10 Y →
    ∃ D : List Int, D.length ≤ 10000 ∧ Lim 10 D ∧ val 10 D = val 10 X * val 10 Y ∧ ∀ r, Evt (fun k => (marginaliaref01_give.f k (na != nb) D).bind fun t => some (t.1, t.2.1, t.2.2)) r → Evt (fun k => marginaliaref01_Mul.l0 k X Y out (i : Int) na la nb lb) r
  | 0, i, out, hi, hlen, hb, hv => by
    obtain ⟨D, h1, h2, ⟨c', h3, h4⟩, h5⟩ := rmul_carry na nb la lb out (by omega) (fun q hq => ⟨(hb q hq).1, by have := (hb q hq).2; omega⟩) out.length 0 [] 0 (by omega) rfl (Lim.nil _) (by omega) (by omega)
    rw [List.take_of_length_le (by omega)] at hv
    have hc : c' = 0 := by
      have b1 := val_nonneg (B := 10) (by omega) h2
      have bX := val_lt (B := 10) (by omega) hLX
      have bY := val_lt (B := 10) (by omega) hLY
      have bX0 := val_nonneg (B := 10) (by omega) hLX
      have bY0 := val_nonneg (B := 10) (by omega) hLY
      have b3 : val 10 X * val 10 Y ≤ 10 ^ X.length * 10 ^ Y.length := Int.mul_le_mul (by omega) (by omega) bY0 (by have := pow_pos' (B := 10) (by omega) X.length; omega)
      rw [← Int.pow_add] at b3
      have b4 : (10 : Int) ^ out.length = 10 ^ (X.length + Y.length) * 10 := by rw [hlen, Int.pow_succ]
      have b5 := pow_pos' (B := 10) (by omega) (X.length + Y.length)
      simp only [val, Int.pow_zero, Int.one_mul, Int.zero_add, List.drop_zero] at h4
      rw [hv, b4] at h4
      apply Decidable.byContradiction
      intro hne
      have b6 : (10 : Int) ^ (X.length + Y.length) * 10 * 1 ≤ 10 ^ (X.length + Y.length) * 10 * c' := Int.mul_le_mul_of_nonneg_left (by omega) (by omega)
      omega
    subst hc
    simp only [val, Int.pow_zero, Int.one_mul, Int.zero_add, List.drop_zero, Int.mul_zero, Int.add_zero] at h4
    refine ⟨D, by omega, h2, by rw [h4, hv], fun r hr => Evt.step (fun k => ?_) (h5 r hr)⟩
    simp only [marginaliaref01_Mul.l0]
    rw [if_neg (by omega)]
    rfl
  | d + 1, i, out, hi, hlen, hb, hv => by
    obtain ⟨out', h1, h2, h3, h4⟩ := rmul_inner na nb la lb X Y hX hY hLX hLY i (by omega) (81 * (i : Int)) (by omega) Y.length 0 out (by omega) hlen (fun q hq => by
      have := hb q hq
      refine ⟨this.1, Int.le_trans this.2 ?_⟩
      split <;> omega) (by omega)
    obtain ⟨D, g1, g2, g3, g4⟩ := rmul_outer na nb la lb X Y hX hY hLX hLY d (i + 1) out' (by omega) h1 (fun q hq => by
      have := h2 q (by omega)
      exact ⟨this.1, by have := this.2; omega⟩) (by
      rw [h3, hv, List.take_succ_eq_append_getElem (by omega), val_snoc, ← rd_at X i (by omega), List.length_take, Nat.min_eq_left (by omega)]
      simp only [Nat.add_zero, List.drop_zero]
      exact ring_snoc _ _ _ _)
    refine ⟨D, g1, g2, g3, fun r hr => Evt.step (fun k => ?_) (h4 r (g4 r hr))⟩
    simp only [marginaliaref01_Mul.l0]
    rw [if_pos (by omega)]
    rfl

theorem give_ev (a : Bool) (d : List Int) (hd : d.length ≤ 1000000) (hL : Lim 10 d) :
    ∃ l, Lim 1000000000 l ∧ Norm l ∧ val 1000000000 l = val 10 d ∧ Evt (fun k => marginaliaref01_give.f k a d) (if l.length > 64 then (false, [], 6) else (a && decide (0 < l.length), l, 0)) := by
  obtain ⟨l, h1, h2, h3, h4⟩ := make_ev a d hd hL
  refine ⟨l, h1, h2, h3, Evt.bind (g := fun k => marginaliaref01_Make.f k a d) (h := fun t _ => if t.2.2 = true then some (t.1, t.2.1, 0) else some (false, [], 6)) h4 (Evt.of fun k => ?_)⟩
  by_cases h : l.length > 64
  · rw [if_pos h, if_pos h]; rfl
  · rw [if_neg h, if_neg h]; rfl

/-- The product by digits. -/
theorem rmul_ev (na nb : Bool) (la lb : List Int) (ha : Snd na la) (hb : Snd nb lb) (hLa : Lim 1000000000 la) (hLb : Lim 1000000000 lb) :
    ∃ r, Lim 1000000000 r ∧ Norm r ∧ val 1000000000 r = val 1000000000 la * val 1000000000 lb ∧ Evt (fun k => marginaliaref01_Mul.f k na la nb lb) (if r.length > 64 then (false, [], 6) else ((na != nb) && decide (0 < r.length), r, 0)) := by
  have hla := ha.len
  have hlb := hb.len
  obtain ⟨X, x1, x2, x3, x5, x4⟩ := digits_ev na la (by omega) hLa
  obtain ⟨Y, y1, y2, y3, y5, y4⟩ := digits_ev nb lb (by omega) hLb
  obtain ⟨D, d1, d2, d3, d4⟩ := rmul_outer na nb la lb X Y (by omega) (by omega) x1 y1 X.length 0 (List.replicate (X.length + Y.length + 1) 0) (by omega) (by simp) (fun q hq => by
    rw [rd_at _ _ hq]; simp) (by rw [val_replicate]; simp [val])
  obtain ⟨r, r1, r2, r3, r4⟩ := give_ev (na != nb) D (by omega) d2
  obtain ⟨b1, hb1, hi1⟩ := rsound_ev na la (by omega)
  obtain ⟨b2, hb2, hi2⟩ := rsound_ev nb lb (by omega)
  obtain rfl := hi1.2 ha
  obtain rfl := hi2.2 hb
  refine ⟨r, r1, r2, by rw [r3, d3, x3, y3], ?_⟩
  refine Evt.bind (g := fun k => marginaliaref01_Sound.f k na la) (h := fun t k => if t = true then (marginaliaref01_Sound.f k nb lb).bind fun t2 => marginaliaref01_Mul.j0 k (!t2) na la nb lb else marginaliaref01_Mul.j0 k true na la nb lb) hb1 ?_
  simp only [if_true]
  refine Evt.bind (h := fun t2 k => marginaliaref01_Mul.j0 k (!t2) na la nb lb) hb2 ?_
  refine Evt.step (h := fun k => (marginaliaref01_Digits.f k na la).bind fun X => (marginaliaref01_Digits.f k nb lb).bind fun Y => if 0 ≤ wrap64 (wrap64 ((X.length : Int) + (Y.length : Int)) + 1) then (if (wrap64 (wrap64 ((X.length : Int) + (Y.length : Int)) + 1) : Int).toNat ≤ 35184372088832 then marginaliaref01_Mul.l0 k X Y (List.replicate (wrap64 (wrap64 ((X.length : Int) + (Y.length : Int)) + 1) : Int).toNat 0) 0 na la nb lb else none) else none) (fun k => ?_) ?_
  · simp only [marginaliaref01_Mul.j0]
    rw [if_neg (by simp)]
  · refine Evt.bind (h := fun X k => (marginaliaref01_Digits.f k nb lb).bind fun Y => if 0 ≤ wrap64 (wrap64 ((X.length : Int) + (Y.length : Int)) + 1) then (if (wrap64 (wrap64 ((X.length : Int) + (Y.length : Int)) + 1) : Int).toNat ≤ 35184372088832 then marginaliaref01_Mul.l0 k X Y (List.replicate (wrap64 (wrap64 ((X.length : Int) + (Y.length : Int)) + 1) : Int).toNat 0) 0 na la nb lb else none) else none) x4 ?_
    refine Evt.bind (h := fun Y k => if 0 ≤ wrap64 (wrap64 ((X.length : Int) + (Y.length : Int)) + 1) then (if (wrap64 (wrap64 ((X.length : Int) + (Y.length : Int)) + 1) : Int).toNat ≤ 35184372088832 then marginaliaref01_Mul.l0 k X Y (List.replicate (wrap64 (wrap64 ((X.length : Int) + (Y.length : Int)) + 1) : Int).toNat 0) 0 na la nb lb else none) else none) y4 ?_
    refine (d4 _ (Evt.bind (h := fun t _ => some (t.1, t.2.1, t.2.2)) r4 (Evt.of fun _ => rfl))).congr fun k => ?_
    rw [w_add3 X.length Y.length (by omega), if_pos (by omega), Int.toNat_natCast, if_pos (by omega)]
    rfl
theorem rmul_bad (na nb : Bool) (la lb : List Int) (hla : la.length ≤ 4611686018427387904) (hlb : lb.length ≤ 4611686018427387904) (h : ¬ (Snd na la ∧ Snd nb lb)) : Evt (fun k => marginaliaref01_Mul.f k na la nb lb) (false, [], 2) := by
  obtain ⟨b1, hb1, hi1⟩ := rsound_ev na la hla
  obtain ⟨b2, hb2, hi2⟩ := rsound_ev nb lb hlb
  have hj : Evt (fun k => marginaliaref01_Mul.j0 k true na la nb lb) (false, [], 2) := Evt.of1 fun k => by simp [marginaliaref01_Mul.j0]
  refine Evt.bind (g := fun k => marginaliaref01_Sound.f k na la) (h := fun t k => if t = true then (marginaliaref01_Sound.f k nb lb).bind fun t2 => marginaliaref01_Mul.j0 k (!t2) na la nb lb else marginaliaref01_Mul.j0 k true na la nb lb) hb1 ?_
  cases b1 with
  | false => exact hj.congr fun k => by simp
  | true =>
    simp only [if_true]
    refine Evt.bind (h := fun t2 k => marginaliaref01_Mul.j0 k (!t2) na la nb lb) hb2 ?_
    cases b2 with
    | false => exact hj.congr fun k => by simp
    | true => exact absurd ⟨hi1.1 rfl, hi2.1 rfl⟩ h
end Go.Proofs.YtflmioakfboanaaDoor.PNumTimes
