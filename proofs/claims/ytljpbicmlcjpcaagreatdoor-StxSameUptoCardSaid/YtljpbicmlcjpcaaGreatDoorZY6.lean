/-
  Part of a claim: definitions and lemmas that its theorem leans on, packed by wip/tools/pack.py.
-/
import Derived.Test.YtljpbicmlcjpcaaGreatDoorZY5
import Derived.Test.YtljpbicmlcjpcaaGreatDoorTie
import Derived.Test.YtljpbicmlcjpcaaGreatDoorCards
import Derived.WalkKit
import Derived.ProofKit
import Derived.ShutString
import Derived.Lay
import Derived.Stop.Joined
import Derived.SevenTiedAt
set_option linter.unusedVariables false
set_option linter.unusedSimpArgs false
section
set_option linter.unusedVariables false
set_option linter.unusedSimpArgs false
namespace Go.Proofs.YtljpbicmlcjpcaaGreatDoor.Ev
open Go
section
abbrev sxeT (x : Sx) (e : Int) : TV := .tup [(true, x.row.map .fz), (false, [.fz (.int .i64 e)])]
def pushV (x : Sx) (M S : List Int) : Sx := x.withW (joM M S x.ms x.us) (joS M S x.ms x.us)
def pushE (x : Sx) (M S : List Int) : Int :=
  if x.snd = true then (if wrSnd M S = true then (if jnE M S x.ms x.us = 0 then (if (pushV x M S).snd = true then 0 else 6) else jnE M S x.ms x.us) else 2) else 2
def pushR (x : Sx) (M S : List Int) : Sx := if pushE x M S = 0 then pushV x M S else Sx.zero
theorem pushV_ok {x : Sx} (hx : x.ok) {M S : List Int} (hM : All64 M) (hS : All64 S) : (pushV x M S).ok := jn1_ok hM hS hx
theorem zero_ok : Sx.zero.ok := by
  unfold Sx.zero Sx.ok
  refine ⟨⟨by decide, by decide⟩, by decide, Lim.nil _, by simp, by simp, ?_, ⟨by decide, by decide⟩, all64_nil, all64_nil⟩
  unfold Sx.oks; trivial
theorem push_bad {x : Sx} {M S : List Int} {e : Int} (h : pushE x M S = e) (he : e ≠ 0) : sxeT (pushR x M S) (pushE x M S) = sxeT Sx.zero e := by
  unfold pushR; rw [h, if_neg he]
theorem push_good {x : Sx} {M S : List Int} (h : pushE x M S = 0) : sxeT (pushR x M S) (pushE x M S) = sxeT (pushV x M S) 0 := by
  unfold pushR; rw [h, if_pos rfl]
theorem sPush_ok (x : Sx) (hx : x.ok) (M S : List Int) (hM : All64 M) (hS : All64 S) : Fn Tryz.prog 17 [fzX x, fzW M S] [] (sxeT (pushR x M S) (pushE x M S)) [] := by
  have h1 := stxSound_ok x hx
  have h2 := wrapSound_ok M S hM hS
  have hmu := ok_ms hx
  have h3 := join_ok M S x.ms x.us hM hS hmu.1 hmu.2
  have h4 := xown_ok x hx
  have h5 := withR_ok x (joM M S x.ms x.us) (joS M S x.ms x.us)
  have h6 := stxSound_ok (pushV x M S) (pushV_ok hx hM hS)
  have e1 : x.snd = false → pushE x M S = 2 := fun h => by unfold pushE; rw [h]; rfl
  have e2 : x.snd = true → wrSnd M S = false → pushE x M S = 2 := fun h h' => by unfold pushE; rw [if_pos h, h']; rfl
  have e3 : x.snd = true → wrSnd M S = true → jnE M S x.ms x.us ≠ 0 → pushE x M S = jnE M S x.ms x.us := fun h h' h2 => by unfold pushE; rw [if_pos h, if_pos h', if_neg h2]
  have e4 : x.snd = true → wrSnd M S = true → jnE M S x.ms x.us = 0 → (pushV x M S).snd = false → pushE x M S = 6 := fun h h' h2 h3 => by unfold pushE; rw [if_pos h, if_pos h', if_pos h2, h3]; rfl
  have e5 : x.snd = true → wrSnd M S = true → jnE M S x.ms x.us = 0 → (pushV x M S).snd = true → pushE x M S = 0 := fun h h' h2 h3 => by unfold pushE; rw [if_pos h, if_pos h', if_pos h2, if_pos h3]
  have g1 := @push_bad x M S
  have g2 := @push_good x M S
  generalize hz : sxeT (pushR x M S) (pushE x M S) = T at *
  generalize pushE x M S = E at *
  generalize x.snd = b1 at *
  generalize (pushV x M S).snd = b3 at *
  obtain ⟨k, t, n, l, xs, a, m, u⟩ := x
  clear hz
  unfold fzX at *
  simp only [pushV, Sx.withW, Sx.ms, Sx.us, Sx.row, Sx.list, List.map_cons, List.map_nil] at *
  have h7 : Fn Tryz.prog 59 [.agg [.fz (.int .i64 k), .fz (.str t), .fz (.bool n), .fz (.sl 1 (ints .u32 l)), .fz (.sl 8 (Sx.rows xs)), .fz (.int .i64 a), .fz (.sl 1 (ints .i64 m)), .fz (.sl 1 (ints .i64 u))]] [] (fzW m u) [] := of_ok' k t n l xs a m u
  refine stxO_Push_fc _ _ _ _ _ _ _ _ _ _ ?_
  unfold stxO_Push_H
  refine ⟨_, h1, ?_⟩
  rw [not_t, not_f]
  refine ⟨fun hb => ?_, fun hb => ⟨_, h2, ?_⟩⟩
  · rw [g1 (e1 hb) (by omega)]; exact ⟨rfl, trivial, rfl⟩
  rw [not_t, not_f]
  refine ⟨fun hw => ?_, fun hw => ⟨_, _, h7, _, _, _, h3, ?_⟩⟩
  · rw [g1 (e2 hb hw) (by omega)]; exact ⟨rfl, trivial, rfl⟩
  rw [bne_t, bne_f]
  refine ⟨fun hj => ?_, fun hj => ⟨_, _, _, _, _, _, _, _, h4, _, _, _, _, _, _, _, _, h5, _, h6, ?_⟩⟩
  · rw [g1 (e3 hb hw hj) hj]; exact ⟨rfl, trivial, rfl⟩
  rw [not_t, not_f]
  refine ⟨fun hs => ?_, fun hs => ?_⟩
  · rw [g1 (e4 hb hw hj hs) (by omega)]; exact ⟨rfl, trivial, rfl⟩
  · rw [g2 (e5 hb hw hj hs)]; exact ⟨rfl, trivial, rfl⟩
def Sx.errE (x : Sx) : Int := if x.snd = true then 0 else 2
def Sx.openR (x : Sx) : Sx := if x.snd = true then x.openV else Sx.zero
def Sx.flV1 (x : Sx) : Sx := x.flV x.ms x.us
def Sx.flR (x : Sx) : Sx := if x.snd = true then x.flV1 else Sx.zero
theorem sOpen_ok (x : Sx) (hx : x.ok) : Fn Tryz.prog 21 [fzX x] [] (sxeT x.openR x.errE) [] := by
  have h1 := stxSound_ok x hx
  have h4 := xown_ok x hx
  have h5 := opened_ok x hx
  have g1 : x.snd = false → sxeT x.openR x.errE = sxeT Sx.zero 2 := fun h => by unfold Sx.openR Sx.errE; rw [h]; rfl
  have g2 : x.snd = true → sxeT x.openR x.errE = sxeT x.openV 0 := fun h => by unfold Sx.openR Sx.errE; rw [if_pos h, if_pos h]
  generalize sxeT x.openR x.errE = T at *
  generalize x.snd = b1 at *
  generalize x.openV = y at *
  obtain ⟨k, t, n, l, xs, a, m, u⟩ := x
  obtain ⟨k1, t1, n1, l1, ys, a1, m1, u1⟩ := y
  unfold fzX at *
  simp only [Sx.row, Sx.list, List.map_cons, List.map_nil] at *
  refine stxO_Open_fc _ _ _ _ _ _ _ _ ?_
  unfold stxO_Open_H
  refine ⟨_, h1, ?_⟩
  rw [not_t, not_f]
  refine ⟨fun hb => ?_, fun hb => ⟨_, _, _, _, _, _, _, _, h4, _, _, _, _, _, _, _, _, h5, ?_⟩⟩
  · rw [g1 hb]; exact ⟨rfl, trivial, rfl⟩
  · rw [g2 hb]; exact ⟨rfl, trivial, rfl⟩
theorem flat_one (x : Sx) (hx : x.ok) : Fn Tryz.prog 67 [fzO x] [obX x.list] (fzO x.flV1) [obX x.flV1.list] := by
  have := flat_ok x x.ms x.us hx (ok_ms hx).1 (ok_ms hx).2
  unfold Sx.flV1
  obtain ⟨k, t, n, l, xs, a, m, u⟩ := x
  exact this
theorem sFlat_ok (x : Sx) (hx : x.ok) : Fn Tryz.prog 22 [fzX x] [] (sxeT x.flR x.errE) [] := by
  have h1 := stxSound_ok x hx
  have h4 := xown_ok x hx
  have h5 := flat_one x hx
  have g1 : x.snd = false → sxeT x.flR x.errE = sxeT Sx.zero 2 := fun h => by unfold Sx.flR Sx.errE; rw [h]; rfl
  have g2 : x.snd = true → sxeT x.flR x.errE = sxeT x.flV1 0 := fun h => by unfold Sx.flR Sx.errE; rw [if_pos h, if_pos h]
  generalize sxeT x.flR x.errE = T at *
  generalize x.snd = b1 at *
  generalize x.flV1 = y at *
  obtain ⟨k, t, n, l, xs, a, m, u⟩ := x
  obtain ⟨k1, t1, n1, l1, ys, a1, m1, u1⟩ := y
  unfold fzX at *
  simp only [Sx.row, Sx.list, List.map_cons, List.map_nil] at *
  refine stxO_Flat_fc _ _ _ _ _ _ _ _ ?_
  unfold stxO_Flat_H
  refine ⟨_, h1, ?_⟩
  rw [not_t, not_f]
  refine ⟨fun hb => ?_, fun hb => ⟨_, _, _, _, _, _, _, _, h4, _, _, _, _, _, _, _, _, h5, ?_⟩⟩
  · rw [g1 hb]; exact ⟨rfl, trivial, rfl⟩
  · rw [g2 hb]; exact ⟨rfl, trivial, rfl⟩
mutual
def Sx.lean : Sx → Prop
  | .mk k _ _ _ xs _ _ _ => ((k = 1 ∨ k = 2 ∨ k = 3) ∨ xs = []) ∧ Sx.leans xs
def Sx.leans : List Sx → Prop
  | [] => True
  | x :: xs => x.lean ∧ Sx.leans xs
end
mutual
theorem flatS_eq : ∀ (x : Sx) (M S : List Int), x.lean → x.flatS M S = x.flV (joM M S x.ms x.us) (joS M S x.ms x.us)
  | .mk k t n l xs a m u, M, S, h => by
    unfold Sx.lean at h
    have := flatL_eq xs (joM M S m u) (joS M S m u) h.2
    unfold Sx.flatS Sx.flV
    simp only [Sx.ms, Sx.us]
    rw [this]
    rcases h.1 with hk | he
    · rw [if_pos hk]
    · subst he; simp only [Sx.flJ, Sx.flO, ite_self]
theorem flatL_eq : ∀ (xs : List Sx) (M S : List Int), Sx.leans xs → Sx.flatL xs M S = Sx.flJ xs M S
  | [], _, _, _ => by simp only [Sx.flatL, Sx.flJ]
  | x :: xs, M, S, h => by
    unfold Sx.leans at h
    simp only [Sx.flatL, Sx.flJ]
    rw [flatS_eq x M S h.1, flatL_eq xs M S h.2]
end
theorem plB_list {t : ByteArray} {n : Bool} {l : List Int} {dn : Nat} {a b : Bool} (h : plB t n l dn a b false = true) : dn = 0 := by
  unfold plB at h
  simp only [Bool.and_eq_true, Bool.false_or, decide_eq_true_eq] at h
  exact h.2.2
theorem leafB_list {k : Int} {t : ByteArray} {n : Bool} {l : List Int} {dn : Nat} (h : leafB k t n l dn = true) : dn = 0 := by
  unfold leafB at h
  split at h
  · exact plB_list (Bool.and_eq_true_iff.1 h).2
  split at h
  · exact plB_list (Bool.and_eq_true_iff.1 h).2
  split at h
  · exact plB_list (Bool.and_eq_true_iff.1 h).2
  split at h
  · exact plB_list (Bool.and_eq_true_iff.1 h).2
  split at h
  · exact plB_list h
  split at h
  · exact plB_list h
  · cases h
mutual
theorem lean_meas : ∀ (x : Sx) (dp room : Int), 0 < x.dt.meas dp room → x.lean
  | .mk k t n l xs a m u, dp, room, h => by
    unfold Sx.dt Dt.meas at h
    unfold Sx.lean
    split at h
    · omega
    split at h
    · rename_i hk
      split at h
      · have := leans_meas xs (dp + 1) room 1 (by omega) h
        exact ⟨.inl (by omega), this⟩
      · omega
    · split at h
      · rename_i hl
        have h0 := leafB_list hl
        rw [dts_len] at h0
        have : xs = [] := List.eq_nil_of_length_eq_zero h0
        subst this
        exact ⟨.inr rfl, by unfold Sx.leans; trivial⟩
      · omega
theorem leans_meas : ∀ (xs : List Sx) (dp room n : Int), 0 < n → 0 < Dt.measL (Sx.dts xs) dp room n → Sx.leans xs
  | [], _, _, _, _, _ => by unfold Sx.leans; trivial
  | x :: xs, dp, room, n, h0, h => by
    unfold Sx.dts Dt.measL at h
    unfold Sx.leans
    split at h
    · omega
    · rename_i hm
      have hp : 0 < x.dt.meas dp (room - n) := by rcases meas_le x.dt dp (room - n) with h | h <;> omega
      exact ⟨lean_meas x dp (room - n) hp, leans_meas xs dp room _ (by omega) h⟩
end
theorem snd_lean {x : Sx} (h : x.snd = true) : x.lean := by
  unfold Sx.snd at h
  simp only [Bool.and_eq_true] at h
  have h2 := h.2.1
  unfold Dt.snd at h2
  exact lean_meas x 1 8192 (by simpa using h2)
theorem jnE_nil {m u : List Int} (h : jnE [] [] m u = 0) : joM [] [] m u = m ∧ joS [] [] m u = u := by
  unfold joM joS
  rw [if_pos h, if_pos h]
  unfold jnM jnS
  have : ¬ cnP [] [] m u := by unfold cnP; simp
  rw [if_neg this, if_neg this]
  exact ⟨rfl, rfl⟩
theorem snd_jnd {x : Sx} (h : x.snd = true) : x.jnd [] [] = true := by
  unfold Sx.snd at h
  simp only [Bool.and_eq_true] at h
  exact h.2.2.2
theorem jnd_E {x : Sx} {M S : List Int} (h : x.jnd M S = true) : jnE M S x.ms x.us = 0 := by
  obtain ⟨k, t, n, l, xs, a, m, u⟩ := x
  unfold Sx.jnd at h
  simp only [Bool.and_eq_true, decide_eq_true_eq] at h
  exact h.1
theorem flat_snd {x : Sx} (h : x.snd = true) : x.flatS [] [] = x.flV1 := by
  have hj := jnE_nil (jnd_E (snd_jnd h))
  rw [flatS_eq x [] [] (snd_lean h), hj.1, hj.2]
  rfl
theorem rFlat_ok (x : Sx) (hx : x.ok) : Fn Tryz.prog 24 [fzX x] [] (sxeT x.flR x.errE) [] := by
  have h1 := rSound9_ok x hx
  have h4 := rflat_ok x [] [] hx all64_nil all64_nil
  have h5 : x.snd = true → x.flatR [] [] = x.flV1 := fun h => by
    unfold Sx.flatR
    rw [if_pos (snd_jnd h), flat_snd h]
  have g1 : x.snd = false → sxeT x.flR x.errE = sxeT Sx.zero 2 := fun h => by unfold Sx.flR Sx.errE; rw [h]; rfl
  have g2 : x.snd = true → sxeT x.flR x.errE = sxeT x.flV1 0 := fun h => by unfold Sx.flR Sx.errE; rw [if_pos h, if_pos h]
  generalize sxeT x.flR x.errE = T at *
  generalize x.snd = b1 at *
  generalize x.flatR [] [] = z at *
  generalize x.flV1 = y at *
  generalize x.jnd [] [] = b2 at *
  obtain ⟨k, t, n, l, xs, a, m, u⟩ := x
  obtain ⟨k1, t1, n1, l1, ys, a1, m1, u1⟩ := z
  unfold fzX at *
  simp only [Sx.row, Sx.list, List.map_cons, List.map_nil] at h1 h4 ⊢
  refine ref09_Flat_fn _ _ _ _ _ _ _ _ ?_
  unfold ref09_Flat_H
  refine ⟨_, h1, ?_⟩
  rw [not_t, not_f]
  refine ⟨fun hb => ?_, fun hb => ⟨_, _, _, _, _, _, _, _, _, h4, ?_⟩⟩
  · rw [g1 hb]; exact ⟨rfl, rfl⟩
  · rw [g2 hb, ← h5 hb]; exact ⟨rfl, rfl⟩
end
set_option maxRecDepth 100000
section
def slices_Equal_uint32_uint32_lv : List Nat → Keep := lvOf [([0, 1, 0, 1, 1], ⟨12291, 0, [], false, false⟩)]
def slices_Equal_uint32_uint32_S0 (s1 : LL) (s2 : LL) (i : Int) : St := (St.mk [(TV.one (AV.fz (FV.sl 1 s1))), (TV.one (AV.fz (FV.sl 1 s2))), TV.und, TV.und, TV.und, TV.und, TV.und, TV.und, TV.und, TV.und, TV.und, TV.und, (TV.one (AV.fz (FV.int .i64 (((List.length s1) : Nat) : Int)))), (TV.one (AV.fz (FV.int .i64 i))), TV.und, TV.und, TV.und, TV.und, TV.und, TV.und, TV.und, TV.und, TV.und, TV.und, TV.und, TV.und] [])
def slices_Equal_uint32_uint32_L0 (R : TV → List Ob → Prop) (s1 : LL) (s2 : LL) (i : Int) : Prop := LoopAt Tryz.prog (modeOf [] []) slices_Equal_uint32_uint32_lv Tryz.f104 none R [1, 1, 0, 1, 0] (slices_Equal_uint32_uint32_S0 s1 s2 i)
def slices_Equal_uint32_uint32_R0 (R : TV → List Ob → Prop) (s1 : List (List FV)) (s2 : List (List FV)) (i : Int) : Prop :=
  ((((decide (i < (((List.length s1) : Nat) : Int))) = true) → (((0 : Int) ≤ i) ∧ (∃ n4 : Int, (((s1)[(Int.toNat i)]? = (some [(FV.int .u32 n4)])) ∧ (((0 : Int) ≤ i) ∧ (∃ n5 : Int, (((s2)[(Int.toNat i)]? = (some [(FV.int .u32 n5)])) ∧ ((((n4 != n5) = true) → (R (TV.one (AV.fz (FV.bool false))) [])) ∧ (((n4 != n5) = false) → (slices_Equal_uint32_uint32_L0 R s1 s2 (IntKind.wrap .i64 (i + 1)))))))))))) ∧ (((decide (i < (((List.length s1) : Nat) : Int))) = false) → (R (TV.one (AV.fz (FV.bool true))) [])))
theorem slices_Equal_uint32_uint32_l0 {R : TV → List Ob → Prop} {s1 : LL} {s2 : LL} {i : Int} (h : slices_Equal_uint32_uint32_R0 R s1 s2 i) : slices_Equal_uint32_uint32_L0 R s1 s2 i :=
  LoopAt.by_tr (by kernel_rfl) (by kernel_rfl) h
def slices_Equal_uint32_uint32_H (R : TV → List Ob → Prop) (s1 : List (List FV)) (s2 : List (List FV)) : Prop :=
  (((((((List.length s1) : Nat) : Int) != (((List.length s2) : Nat) : Int)) = true) → (R (TV.one (AV.fz (FV.bool false))) [])) ∧ ((((((List.length s1) : Nat) : Int) != (((List.length s2) : Nat) : Int)) = false) → (slices_Equal_uint32_uint32_L0 R s1 s2 0)))
theorem slices_Equal_uint32_uint32_fn (s1 : LL) (s2 : LL) {r : TV} {h : List Ob} (H : slices_Equal_uint32_uint32_H (fun r' h' => r' = r ∧ h' = h) s1 s2) : Fn Tryz.prog 104 [(TV.one (AV.fz (FV.sl 1 s1))), (TV.one (AV.fz (FV.sl 1 s2)))] [] r h :=
  Fn.by_tr (M := (modeOf [] [])) (lv := slices_Equal_uint32_uint32_lv) (own := none) (F := Tryz.f104) (by kernel_rfl) (by kernel_rfl) (by first | decide | simp) (fun _ _ h => h) (by kernel_rfl) H
end
section
theorem rd_ints (k : IntKind) {l : List Int} {i : Nat} (h : i < l.length) : (ints k l)[i]? = some [.int k (rd l i)] := by simp [ints, rd_at l i h, h]
theorem eqI_loop (a b : List Int) (ha : a.length * 8 ≤ 140737488355328) (hlen : a.length = b.length) (R : TV → List Ob → Prop) (hR : R (fzB (decide (a = b))) []) : ∀ (d i : Nat), i + d = a.length → a.take i = b.take i → slices_Equal_int_int_L0 R (ints .i64 a) (ints .i64 b) i
  | 0, i, hi, h => by
    rw [List.take_of_length_le (by omega), List.take_of_length_le (by omega)] at h
    refine slices_Equal_int_int_l0 ?_
    unfold slices_Equal_int_int_R0
    rw [ints_len, dec_t, dec_f]
    exact ⟨fun h => by omega, fun _ => by simpa [h] using hR⟩
  | d + 1, i, hi, h => by
    refine slices_Equal_int_int_l0 ?_
    unfold slices_Equal_int_int_R0
    have e3 : IntKind.wrap .i64 ((i : Int) + 1) = ((i + 1 : Nat) : Int) := w64 (by omega) (by omega)
    rw [ints_len, dec_t, dec_f, e3]
    refine ⟨fun _ => ⟨by omega, _, rd_ints .i64 (l := a) (i := i) (by omega), by omega, _, rd_ints .i64 (l := b) (i := i) (by omega), ?_⟩, fun h => by omega⟩
    rw [bne_t, bne_f]
    refine ⟨fun hne => ?_, fun he => ?_⟩
    · have : ¬ a = b := fun e => hne (by rw [e])
      simpa [this] using hR
    · refine eqI_loop a b ha hlen R hR d (i + 1) (by omega) ?_
      rw [rd_at a i (by omega), rd_at b i (by omega)] at he
      rw [List.take_succ_eq_append_getElem (by omega), List.take_succ_eq_append_getElem (by omega), h, he]
theorem eqI_ok (a b : List Int) (ha : a.length * 8 ≤ 140737488355328) : Fn Tryz.prog 81 [fzS .i64 a, fzS .i64 b] [] (fzB (decide (a = b))) [] := by
  refine slices_Equal_int_int_fn _ _ ?_
  unfold slices_Equal_int_int_H
  rw [ints_len, ints_len, bne_t, bne_f]
  refine ⟨fun h2 => ?_, fun h2 => ?_⟩
  · have : ¬ a = b := fun e => h2 (by rw [e])
    rw [decide_eq_false this]
    exact ⟨rfl, rfl⟩
  · exact eqI_loop a b ha (by omega) _ ⟨rfl, rfl⟩ a.length 0 (by omega) (by simp)
theorem eqU_loop (a b : List Int) (ha : a.length * 4 ≤ 140737488355328) (hlen : a.length = b.length) (R : TV → List Ob → Prop) (hR : R (fzB (decide (a = b))) []) : ∀ (d i : Nat), i + d = a.length → a.take i = b.take i → slices_Equal_uint32_uint32_L0 R (ints .u32 a) (ints .u32 b) i
  | 0, i, hi, h => by
    rw [List.take_of_length_le (by omega), List.take_of_length_le (by omega)] at h
    refine slices_Equal_uint32_uint32_l0 ?_
    unfold slices_Equal_uint32_uint32_R0
    rw [ints_len, dec_t, dec_f]
    exact ⟨fun h => by omega, fun _ => by simpa [h] using hR⟩
  | d + 1, i, hi, h => by
    refine slices_Equal_uint32_uint32_l0 ?_
    unfold slices_Equal_uint32_uint32_R0
    have e3 : IntKind.wrap .i64 ((i : Int) + 1) = ((i + 1 : Nat) : Int) := w64 (by omega) (by omega)
    rw [ints_len, dec_t, dec_f, e3]
    refine ⟨fun _ => ⟨by omega, _, rd_ints .u32 (l := a) (i := i) (by omega), by omega, _, rd_ints .u32 (l := b) (i := i) (by omega), ?_⟩, fun h => by omega⟩
    rw [bne_t, bne_f]
    refine ⟨fun hne => ?_, fun he => ?_⟩
    · have : ¬ a = b := fun e => hne (by rw [e])
      simpa [this] using hR
    · refine eqU_loop a b ha hlen R hR d (i + 1) (by omega) ?_
      rw [rd_at a i (by omega), rd_at b i (by omega)] at he
      rw [List.take_succ_eq_append_getElem (by omega), List.take_succ_eq_append_getElem (by omega), h, he]
theorem eqU_ok (a b : List Int) (ha : a.length * 4 ≤ 140737488355328) : Fn Tryz.prog 104 [fzS .u32 a, fzS .u32 b] [] (fzB (decide (a = b))) [] := by
  refine slices_Equal_uint32_uint32_fn _ _ ?_
  unfold slices_Equal_uint32_uint32_H
  rw [ints_len, ints_len, bne_t, bne_f]
  refine ⟨fun h2 => ?_, fun h2 => ?_⟩
  · have : ¬ a = b := fun e => h2 (by rw [e])
    rw [decide_eq_false this]
    exact ⟨rfl, rfl⟩
  · exact eqU_loop a b ha (by omega) _ ⟨rfl, rfl⟩ a.length 0 (by omega) (by simp)
theorem wSame_ok (m u m' u' : List Int) (hm : All64 m) (hu : All64 u) : Fn Tryz.prog 103 [fzW m u, fzW m' u'] [] (fzB (decide (m = m') && decide (u = u'))) [] := by
  obtain ⟨R, hR, hRe⟩ := exR (fzB (decide (m = m') && decide (u = u')))
  refine wrap_Same_fn _ _ _ _ ?_
  rw [hRe]
  clear hRe
  unfold wrap_Same_H
  refine ⟨_, eqI_ok m m' hm.2, fun h => ⟨_, eqI_ok u u' hu.2, ?_⟩, fun h => ?_⟩
  · rw [h, Bool.true_and] at hR; exact hR
  · rw [h, Bool.false_and] at hR; exact hR
theorem eqAlike_loop (xs ys : List Sx) (hl : xs.length ≤ 1048576) (hxy : xs.length = ys.length)
    (hp : ∀ x ∈ xs, ∀ y, Fn Tryz.prog 73 [fzX x, fzX y] [] (fzB (x.exact y)) [])
    (R : TV → List Ob → Prop) (hR : R (fzB (Sx.exactL xs ys)) []) : ∀ (d j : Nat), j + d = xs.length → Sx.exactL xs ys = Sx.exactL (xs.drop j) (ys.drop j) →
      eqAlike_L0 R (Sx.rows xs) (Sx.rows ys) j
  | 0, j, hj, h => by
    refine eqAlike_l0 ?_
    unfold eqAlike_R0
    rw [srows_len, dec_t, dec_f]
    refine ⟨fun h => by omega, fun _ => ?_⟩
    rw [h, List.drop_of_length_le (by omega)] at hR
    simpa only [Sx.exactL] using hR
  | d + 1, j, hj, h => by
    have hF := hp xs[j] (List.getElem_mem _) (ys[j]'(by omega))
    have hr := srow_at (List.getElem?_eq_getElem (show j < xs.length by omega))
    have hr2 := srow_at (List.getElem?_eq_getElem (show j < ys.length by omega))
    have hd : xs.drop j = xs[j] :: xs.drop (j + 1) := List.drop_eq_getElem_cons (by omega)
    have hd2 : ys.drop j = ys[j]'(by omega) :: ys.drop (j + 1) := List.drop_eq_getElem_cons (by omega)
    rw [hd, hd2, exactL_cons] at h
    generalize xs[j] = y at hF hr h
    generalize ys[j]'(by omega) = z at hF hr2 h
    obtain ⟨k1, t1, n1, l1, ys1, a1, m1, u1⟩ := y
    obtain ⟨k2, t2, n2, l2, ys2, a2, m2, u2⟩ := z
    unfold fzX at hF
    simp only [Sx.row, List.map_cons, List.map_nil] at hF hr hr2
    refine eqAlike_l0 ?_
    unfold eqAlike_R0
    have e : IntKind.wrap .i64 ((j : Int) + 1) = ((j + 1 : Nat) : Int) := w64 (by omega) (by omega)
    rw [srows_len, dec_t, dec_f, e]
    refine ⟨fun _ => ⟨by omega, _, _, _, _, _, _, _, _, hr, by omega, _, _, _, _, _, _, _, _, hr2, _, hF, ?_⟩, fun h => by omega⟩
    rw [not_t, not_f]
    refine ⟨fun h1 => ?_, fun h1 => ?_⟩
    · rw [h, h1, Bool.false_and] at hR; exact hR
    · exact eqAlike_loop xs ys hl hxy hp R hR d (j + 1) (by omega) (by rw [h, h1, Bool.true_and])
theorem eqAlike_ok (xs ys : List Sx) (hl : xs.length ≤ 1048576) (hp : ∀ x ∈ xs, ∀ y, Fn Tryz.prog 73 [fzX x, fzX y] [] (fzB (x.exact y)) []) :
    Fn Tryz.prog 105 [.one (.fz (.sl 8 (Sx.rows xs))), .one (.fz (.sl 8 (Sx.rows ys))), .one (.fz (.fn 73 []))] [] (fzB (decide (xs.length = ys.length) && Sx.exactL xs ys)) [] := by
  obtain ⟨R, hR, hRe⟩ := exR (fzB (decide (xs.length = ys.length) && Sx.exactL xs ys))
  refine eqAlike_fn _ _ ?_
  rw [hRe]
  clear hRe
  unfold eqAlike_H
  rw [srows_len, srows_len, bne_t, bne_f]
  refine ⟨fun h => ?_, fun h => ?_⟩
  · rw [decide_eq_false (by omega), Bool.false_and] at hR; exact hR
  · rw [decide_eq_true (by omega), Bool.true_and] at hR
    exact eqAlike_loop xs ys hl (by omega) hp R hR xs.length 0 (by omega) rfl
mutual
theorem alike_ok : ∀ (x y : Sx), x.ok → Fn Tryz.prog 73 [fzX x, fzX y] [] (fzB (x.exact y)) []
  | .mk k t n l xs a m u, .mk k' t' n' l' ys a' m' u', hok => by
    unfold Sx.ok at hok
    obtain ⟨_, _, _, hl4, hxl, hxs, _, hm, hu⟩ := hok
    have hall := alike_all xs hxs
    have hEq := eqAlike_ok xs ys hxl hall
    obtain ⟨R, hR, hRe⟩ := exR (fzB ((Sx.mk k t n l xs a m u).exact (.mk k' t' n' l' ys a' m' u')))
    unfold fzX
    simp only [Sx.row, List.map_cons, List.map_nil]
    refine stx_alike_fn _ _ _ _ _ _ _ _ _ _ _ _ _ _ _ _ ?_
    rw [hRe]
    clear hRe
    unfold stx_alike_H
    unfold Sx.exact at hR
    have no : (decide (k = k') && (decide (t = t') && (decide (n = n' ∧ l = l') && (decide (m = m') && (decide (u = u') && (decide (xs.length = ys.length) && Sx.exactL xs ys)))))) = false → R (fzB false) [] := fun h => by rw [h] at hR; exact hR
    rw [str_eq, beq_t, beq_f]
    refine ⟨_, _, of_ok' k t n l xs a m u, _, _, of_ok' k' t' n' l' ys a' m' u', _, wSame_ok m u m' u' hm hu, fun h1 => ⟨fun h2 => ⟨fun h3 => ⟨fun h4 => ⟨_, eqU_ok l l' hl4, fun h5 => ⟨_, hEq, ?_⟩, fun h5 => no ?_⟩, fun h4 => no ?_⟩, fun h3 => no ?_⟩, fun h2 => no ?_⟩, fun h1 => no ?_⟩
    · have h4' : n = n' := by simpa using h4
      have h5' : l = l' := of_decide_eq_true h5
      rw [Bool.and_eq_true] at h1
      rw [decide_eq_true h2, h3, decide_eq_true (show n = n' ∧ l = l' from ⟨h4', h5'⟩), h1.1, h1.2] at hR
      exact hR
    · have h5' : ¬ l = l' := of_decide_eq_false h5
      rw [decide_eq_false (show ¬ (n = n' ∧ l = l') from fun h => h5' h.2)]
      simp
    · have h4' : ¬ n = n' := by simpa using h4
      rw [decide_eq_false (show ¬ (n = n' ∧ l = l') from fun h => h4' h.1)]
      simp
    · rw [h3]; simp
    · rw [decide_eq_false h2]; simp
    · rcases Bool.and_eq_false_iff.1 h1 with h | h <;> rw [h] <;> simp
theorem alike_all : ∀ (xs : List Sx), Sx.oks xs → ∀ x ∈ xs, ∀ y, Fn Tryz.prog 73 [fzX x, fzX y] [] (fzB (x.exact y)) []
  | [], hok => fun x hx => by cases hx
  | z :: xs, hok => fun x hx y => by
    unfold Sx.oks at hok
    have h1 := alike_ok z y hok.1
    have h2 := alike_all xs hok.2
    rcases List.mem_cons.1 hx with rfl | hx
    · exact h1
    · exact h2 x hx y
end
def sameB (x y : Sx) : Bool := x.snd && (y.snd && x.flV1.exact y.flV1)
theorem pushR_ok {x : Sx} (hx : x.ok) {M S : List Int} (hM : All64 M) (hS : All64 S) : (pushR x M S).ok := by
  unfold pushR
  split
  · exact pushV_ok hx hM hS
  · exact zero_ok
theorem openR_ok {x : Sx} (hx : x.ok) : x.openR.ok := by
  unfold Sx.openR
  split
  · exact openV_ok hx
  · exact zero_ok
mutual
theorem flV_ok : ∀ (x : Sx) (M S : List Int), x.ok → All64 M → All64 S → (x.flV M S).ok
  | .mk k t n l xs a m u, M, S, hx, hM, hS => by
    unfold Sx.ok at hx
    obtain ⟨h1, h2, h3, h4, h5, h6, h7, h8, h9⟩ := hx
    have q := flJ_ok xs h6
    unfold Sx.flV Sx.ok
    refine ⟨h1, h2, h3, h4, ?_, ?_, h7, ?_, ?_⟩
    · split
      · rw [flJ_map, List.length_map, List.length_map]; exact h5
      · rw [flO_map, List.length_map]; exact h5
    · split
      · exact q.1 M S hM hS
      · exact q.2
    · split
      · exact hM
      · exact all64_nil
    · split
      · exact hS
      · exact all64_nil
theorem flJ_ok : ∀ (xs : List Sx), Sx.oks xs → (∀ M S, All64 M → All64 S → Sx.oks (Sx.flJ xs M S)) ∧ Sx.oks (Sx.flO xs)
  | [], _ => by simp only [Sx.flJ, Sx.flO, Sx.oks]; exact ⟨fun _ _ _ _ => trivial, trivial⟩
  | x :: xs, h => by
    unfold Sx.oks at h
    have q := flJ_ok xs h.2
    have r := ok_ms h.1
    simp only [Sx.flJ, Sx.flO, Sx.oks]
    exact ⟨fun M S hM hS => ⟨flV_ok x _ _ h.1 (jo_all hM hS r.1 r.2).1 (jo_all hM hS r.1 r.2).2, q.1 M S hM hS⟩, flV_ok x _ _ h.1 r.1 r.2, q.2⟩
end
theorem flR_ok {x : Sx} (hx : x.ok) : x.flR.ok := by
  unfold Sx.flR
  split
  · exact flV_ok x _ _ hx (ok_ms hx).1 (ok_ms hx).2
  · exact zero_ok
theorem sSame_ok (x y : Sx) (hx : x.ok) (hy : y.ok) : Fn Tryz.prog 28 [fzX x, fzX y] [] (fzB (sameB x y)) [] := by
  have h1 := sFlat_ok x hx
  have h2 := sFlat_ok y hy
  have h3 := alike_ok x.flR y.flR (flR_ok hx)
  obtain ⟨R, hR, hRe⟩ := exR (fzB (sameB x y))
  have e1 : x.errE = 0 → x.snd = true := fun h => by unfold Sx.errE at h; split at h; assumption; omega
  have e2 : y.errE = 0 → y.snd = true := fun h => by unfold Sx.errE at h; split at h; assumption; omega
  have e3 : ¬ x.errE = 0 → x.snd = false := fun h => by unfold Sx.errE at h; split at h; omega; simp_all
  have e4 : ¬ y.errE = 0 → y.snd = false := fun h => by unfold Sx.errE at h; split at h; omega; simp_all
  have e5 : x.snd = true → x.flR = x.flV1 := fun h => by unfold Sx.flR; rw [if_pos h]
  have e6 : y.snd = true → y.flR = y.flV1 := fun h => by unfold Sx.flR; rw [if_pos h]
  unfold sameB at hR hRe ⊢
  generalize x.errE = ex at *
  generalize y.errE = ey at *
  generalize x.snd = b1 at *
  generalize y.snd = b2 at *
  generalize x.flV1 = vx at *
  generalize y.flV1 = vy at *
  have hc : b1 = true → b2 = true → x.flR.exact y.flR = vx.exact vy := fun h h' => by rw [e5 h, e6 h']
  clear e5 e6
  generalize x.flR.exact y.flR = bb at *
  generalize x.flR = fx at *
  generalize y.flR = fy at *
  obtain ⟨k, t, n, l, xs, a, m, u⟩ := x
  obtain ⟨k', t', n', l', ys, a', m', u'⟩ := y
  obtain ⟨k1, t1, n1, l1, xs1, a1, m1, u1⟩ := fx
  obtain ⟨k2, t2, n2, l2, xs2, a2, m2, u2⟩ := fy
  unfold fzX at *
  simp only [Sx.row, List.map_cons, List.map_nil] at h1 h2 h3 ⊢
  refine stx_Same_fn _ _ _ _ _ _ _ _ _ _ _ _ _ _ _ _ ?_
  rw [hRe]
  clear hRe
  unfold stx_Same_H
  simp only [beq_t, beq_f]
  refine ⟨_, _, _, _, _, _, _, _, _, h1, _, _, _, _, _, _, _, _, _, h2, fun he => ⟨fun hf => ⟨_, h3, ?_⟩, fun hf => ?_⟩, fun he => ?_⟩
  · rw [e1 he, e2 hf, Bool.true_and, Bool.true_and, ← hc (e1 he) (e2 hf)] at hR; exact hR
  · rw [e4 hf, Bool.false_and, Bool.and_false] at hR; exact hR
  · rw [e3 he, Bool.false_and] at hR; exact hR
theorem rSame9_ok (x y : Sx) (hx : x.ok) (hy : y.ok) : Fn Tryz.prog 29 [fzX x, fzX y] [] (fzB (sameB x y)) [] := by
  have h1 := rFlat_ok x hx
  have h2 := rFlat_ok y hy
  have h3 := rExact_ok x.flR y.flR (flR_ok hx)
  obtain ⟨R, hR, hRe⟩ := exR (fzB (sameB x y))
  have e1 : x.errE = 0 → x.snd = true := fun h => by unfold Sx.errE at h; split at h; assumption; omega
  have e2 : y.errE = 0 → y.snd = true := fun h => by unfold Sx.errE at h; split at h; assumption; omega
  have e3 : ¬ x.errE = 0 → x.snd = false := fun h => by unfold Sx.errE at h; split at h; omega; simp_all
  have e4 : ¬ y.errE = 0 → y.snd = false := fun h => by unfold Sx.errE at h; split at h; omega; simp_all
  have e5 : x.snd = true → x.flR = x.flV1 := fun h => by unfold Sx.flR; rw [if_pos h]
  have e6 : y.snd = true → y.flR = y.flV1 := fun h => by unfold Sx.flR; rw [if_pos h]
  unfold sameB at hR hRe ⊢
  generalize x.errE = ex at *
  generalize y.errE = ey at *
  generalize x.snd = b1 at *
  generalize y.snd = b2 at *
  generalize x.flV1 = vx at *
  generalize y.flV1 = vy at *
  have hc : b1 = true → b2 = true → x.flR.exact y.flR = vx.exact vy := fun h h' => by rw [e5 h, e6 h']
  clear e5 e6
  generalize x.flR.exact y.flR = bb at *
  generalize x.flR = fx at *
  generalize y.flR = fy at *
  obtain ⟨k, t, n, l, xs, a, m, u⟩ := x
  obtain ⟨k', t', n', l', ys, a', m', u'⟩ := y
  obtain ⟨k1, t1, n1, l1, xs1, a1, m1, u1⟩ := fx
  obtain ⟨k2, t2, n2, l2, xs2, a2, m2, u2⟩ := fy
  unfold fzX at *
  simp only [Sx.row, List.map_cons, List.map_nil] at h1 h2 h3 ⊢
  refine ref09_Same_fn _ _ _ _ _ _ _ _ _ _ _ _ _ _ _ _ ?_
  rw [hRe]
  clear hRe
  unfold ref09_Same_H
  simp only [beq_t, beq_f]
  refine ⟨_, _, _, _, _, _, _, _, _, h1, _, _, _, _, _, _, _, _, _, h2, fun he => ⟨fun hf => ⟨_, h3, ?_⟩, fun hf => ?_⟩, fun he => ?_⟩
  · rw [e1 he, e2 hf, Bool.true_and, Bool.true_and, ← hc (e1 he) (e2 hf)] at hR; exact hR
  · rw [e4 hf, Bool.false_and, Bool.and_false] at hR; exact hR
  · rw [e3 he, Bool.false_and] at hR; exact hR
mutual
def Sx.syms : Sx → Bool
  | .mk k _ _ _ xs _ _ _ => Sx.symsL xs || decide (k = 4)
def Sx.symsL : List Sx → Bool
  | [] => false
  | x :: xs => x.syms || Sx.symsL xs
end
theorem syms_loop (k : Int) (t : ByteArray) (n : Bool) (l : List Int) (a : Int) (m u : List Int) (xs : List Sx) (hl : xs.length ≤ 1048576)
    (hp : ∀ x ∈ xs, Fn Tryz.prog 31 [fzX x] [] (fzB x.syms) [])
    (R : TV → List Ob → Prop) (hR : R (fzB (Sx.symsL xs || decide (k = 4))) []) : ∀ (d j : Nat), j + d = xs.length → Sx.symsL xs = Sx.symsL (xs.drop j) →
      law10_symbols_L0 R k t n (ints .u32 l) (Sx.rows xs) a (ints .i64 m) (ints .i64 u) j
  | 0, j, hj, h => by
    refine law10_symbols_l0 ?_
    unfold law10_symbols_R0
    rw [srows_len, dec_t, dec_f]
    refine ⟨fun h => by omega, fun _ => ?_⟩
    rw [h, List.drop_of_length_le (by omega)] at hR
    simp only [Sx.symsL, Bool.false_or] at hR
    rw [show (k == 4) = decide (k = 4) from rfl]
    exact hR
  | d + 1, j, hj, h => by
    have hF := hp xs[j] (List.getElem_mem _)
    have hr := srow_at (List.getElem?_eq_getElem (show j < xs.length by omega))
    have hd : xs.drop j = xs[j] :: xs.drop (j + 1) := List.drop_eq_getElem_cons (by omega)
    rw [hd] at h
    simp only [Sx.symsL] at h
    generalize xs[j] = y at hF hr h
    generalize y.syms = b at hF h
    obtain ⟨k1, t1, n1, l1, ys1, a1, m1, u1⟩ := y
    unfold fzX at hF
    simp only [Sx.row, List.map_cons, List.map_nil] at hF hr
    refine law10_symbols_l0 ?_
    unfold law10_symbols_R0
    have e : IntKind.wrap .i64 ((j : Int) + 1) = ((j + 1 : Nat) : Int) := w64 (by omega) (by omega)
    rw [srows_len, dec_t, dec_f, e]
    refine ⟨fun _ => ⟨by omega, _, _, _, _, _, _, _, _, hr, _, hF, fun h1 => ?_, fun h1 => ?_⟩, fun h => by omega⟩
    · rw [h, h1, Bool.true_or, Bool.true_or] at hR; exact hR
    · exact syms_loop k t n l a m u xs hl hp R hR d (j + 1) (by omega) (by rw [h, h1, Bool.false_or])
mutual
theorem syms_ok : ∀ (x : Sx), x.ok → Fn Tryz.prog 31 [fzX x] [] (fzB x.syms) []
  | .mk k t n l xs a m u, hok => by
    unfold Sx.ok at hok
    obtain ⟨_, _, _, hl4, hxl, hxs, _, hm, hu⟩ := hok
    have hall := syms_all xs hxs
    obtain ⟨R, hR, hRe⟩ := exR (fzB (Sx.mk k t n l xs a m u).syms)
    unfold fzX
    simp only [Sx.row, List.map_cons, List.map_nil]
    refine law10_symbols_fn _ _ _ _ _ _ _ _ ?_
    rw [hRe]
    clear hRe
    unfold law10_symbols_H
    unfold Sx.syms at hR
    exact syms_loop k t n l a m u xs hxl hall R hR xs.length 0 (by omega) rfl
theorem syms_all : ∀ (xs : List Sx), Sx.oks xs → ∀ x ∈ xs, Fn Tryz.prog 31 [fzX x] [] (fzB x.syms) []
  | [], hok => fun x hx => by cases hx
  | z :: xs, hok => fun x hx => by
    unfold Sx.oks at hok
    have h1 := syms_ok z hok.1
    have h2 := syms_all xs hok.2
    rcases List.mem_cons.1 hx with rfl | hx
    · exact h1
    · exact h2 x hx
end
end
section
theorem jo_snd {m s n t : List Int} (h : jnE m s n t = 0) : wrSnd (joM m s n t) (joS m s n t) = true := by
  unfold joM joS
  rw [if_pos h, if_pos h]
  unfold jnE at h
  split at h
  · split at h
    · rename_i hl
      split at h
      · rename_i hw
        unfold wrSnd
        rw [hw, decide_eq_true hl.1, decide_eq_true hl.2]; rfl
      · omega
    · omega
  · omega
theorem wrSnd_nil : wrSnd [] [] = true := by decide
theorem nil_jn (m u : List Int) : jnM [] [] m u = m ∧ jnS [] [] m u = u := by
  unfold jnM jnS
  have : ¬ cnP [] [] m u := by unfold cnP; simp
  rw [if_neg this, if_neg this]
  exact ⟨rfl, rfl⟩
theorem nil_jnE {m u : List Int} (h : wrSnd m u = true) : jnE [] [] m u = 0 := by
  unfold jnE
  rw [wrSnd_nil, h, (nil_jn m u).1, (nil_jn m u).2]
  unfold wrSnd at h
  simp only [Bool.and_eq_true, decide_eq_true_eq] at h
  rw [if_pos (show (true && true) = true from rfl), if_pos ⟨h.1, h.2.1⟩, if_pos h.2.2]
theorem nil_jo (m s n t : List Int) : joM [] [] (joM m s n t) (joS m s n t) = joM m s n t ∧ joS [] [] (joM m s n t) (joS m s n t) = joS m s n t := by
  by_cases h : jnE m s n t = 0
  · exact jnE_nil (nil_jnE (jo_snd h))
  · have h1 : joM m s n t = [] := by unfold joM; rw [if_neg h]
    have h2 : joS m s n t = [] := by unfold joS; rw [if_neg h]
    rw [h1, h2]
    exact jnE_nil (nil_jnE wrSnd_nil)
theorem flatS_with {y : Sx} {J K M S M' S' : List Int} (h1 : joM M S J K = joM M' S' y.ms y.us) (h2 : joS M S J K = joS M' S' y.ms y.us) : (y.withW J K).flatS M S = y.flatS M' S' := by
  obtain ⟨k, t, n, l, xs, a, m, u⟩ := y
  unfold Sx.withW Sx.flatS
  simp only [Sx.ms, Sx.us] at h1 h2
  rw [h1, h2]
theorem jnd_with {y : Sx} {J K M S M' S' : List Int} (h1 : joM M S J K = joM M' S' y.ms y.us) (h2 : joS M S J K = joS M' S' y.ms y.us) (h3 : jnE M S J K = 0) (h : y.jnd M' S' = true) : (y.withW J K).jnd M S = true := by
  obtain ⟨k, t, n, l, xs, a, m, u⟩ := y
  unfold Sx.withW Sx.jnd
  unfold Sx.jnd at h
  simp only [Sx.ms, Sx.us] at h1 h2
  rw [h1, h2, h3]
  rw [Bool.and_eq_true] at h
  rw [h.2]; rfl
theorem withW_dt (y : Sx) (J K : List Int) : (y.withW J K).dt = y.dt := by
  obtain ⟨k, t, n, l, xs, a, m, u⟩ := y
  simp only [Sx.withW, Sx.dt]
theorem withW_shal (y : Sx) (J K : List Int) (r : Int) : (y.withW J K).shal r = y.shal r := by
  obtain ⟨k, t, n, l, xs, a, m, u⟩ := y
  simp only [Sx.withW, Sx.shal]
theorem map_dts (f : Sx → Sx) (hf : ∀ y, (f y).dt = y.dt) : ∀ xs : List Sx, Sx.dts (xs.map f) = Sx.dts xs
  | [] => rfl
  | x :: xs => by simp only [List.map_cons, Sx.dts, hf, map_dts f hf xs]
theorem map_shal (f : Sx → Sx) (hf : ∀ y r, (f y).shal r = y.shal r) : ∀ (xs : List Sx) (r : Int), Sx.shalL (xs.map f) r = Sx.shalL xs r
  | [], r => rfl
  | x :: xs, r => by simp only [List.map_cons, Sx.shalL, hf, map_shal f hf xs r]
theorem openV_dt (x : Sx) : x.openV.dt = x.dt := by
  obtain ⟨k, t, n, l, xs, a, m, u⟩ := x
  by_cases hk : k = 1 ∨ k = 2 ∨ k = 3
  · rw [openV_t hk]; simp only [Sx.dt]; rw [map_dts (jn1 m u) fun y => withW_dt y _ _]
  · rw [openV_f hk]
theorem openV_shal (x : Sx) (r : Int) : x.openV.shal r = x.shal r := by
  obtain ⟨k, t, n, l, xs, a, m, u⟩ := x
  by_cases hk : k = 1 ∨ k = 2 ∨ k = 3
  · rw [openV_t hk]; simp only [Sx.shal]; rw [map_shal (jn1 m u) fun y r => withW_shal y _ _ r]
  · rw [openV_f hk]
theorem jnd_map (f : Sx → Sx) (M S M' S' : List Int) : ∀ {xs : List Sx}, (∀ y ∈ xs, y.jnd M' S' = true → (f y).jnd M S = true) → Sx.jndL xs M' S' = true → Sx.jndL (xs.map f) M S = true
  | [], _, _ => rfl
  | x :: xs, hf, h => by
    simp only [Sx.jndL, Bool.and_eq_true, List.map_cons] at h ⊢
    exact ⟨hf x (by simp) h.1, jnd_map f M S M' S' (fun y hy => hf y (by simp [hy])) h.2⟩
theorem flat_map (f : Sx → Sx) (M S M' S' : List Int) (hf : ∀ y, (f y).flatS M S = y.flatS M' S') : ∀ xs : List Sx, Sx.flatL (xs.map f) M S = Sx.flatL xs M' S'
  | [] => rfl
  | x :: xs => by simp only [Sx.flatL, List.map_cons, hf, flat_map f M S M' S' hf xs]
theorem nils : joM [] [] [] [] = [] ∧ joS [] [] [] [] = [] := jnE_nil (nil_jnE wrSnd_nil)
theorem openV_flat {x : Sx} (h : x.jnd [] [] = true) : x.openV.flatS [] [] = x.flatS [] [] ∧ x.openV.jnd [] [] = true := by
  have hE := jnd_E h
  have hN := jnE_nil hE
  obtain ⟨k, t, n, l, xs, a, m, u⟩ := x
  simp only [Sx.ms, Sx.us] at hE hN
  by_cases hk : k = 1 ∨ k = 2 ∨ k = 3
  · rw [openV_t hk]
    unfold Sx.jnd at h
    rw [hN.1, hN.2, Bool.and_eq_true] at h
    have h4 : ¬ k = 4 := by omega
    constructor
    · unfold Sx.flatS
      rw [nils.1, nils.2, hN.1, hN.2, if_neg h4, if_neg h4, if_neg h4]
      rw [flat_map (jn1 m u) [] [] m u fun y => flatS_with (nil_jo m u y.ms y.us).1 (nil_jo m u y.ms y.us).2]
    · unfold Sx.jnd
      rw [nils.1, nils.2, nil_jnE wrSnd_nil, Bool.and_eq_true]
      refine ⟨rfl, jnd_map (jn1 m u) [] [] m u (fun y hy hj => ?_) h.2⟩
      exact jnd_with (nil_jo m u y.ms y.us).1 (nil_jo m u y.ms y.us).2 (nil_jnE (jo_snd (jnd_E hj))) hj
  · rw [openV_f hk]; exact ⟨rfl, h⟩
theorem snd_of {x y : Sx} (h : x.snd = true) (h1 : y.dt = x.dt) (h2 : y.shal 64 = x.shal 64) (h3 : y.jnd [] [] = true) : y.snd = true := by
  have h4 := snd_jnd h
  unfold Sx.snd at h ⊢
  rw [h4] at h
  rw [h1, h2, h3]
  exact h
theorem openV_snd {x : Sx} (h : x.snd = true) : x.openV.snd = true := snd_of h (openV_dt x) (openV_shal x 64) (openV_flat (snd_jnd h)).2
theorem openV_flV {x : Sx} (h : x.snd = true) : x.openV.flV1 = x.flV1 := by
  rw [← flat_snd h, ← flat_snd (openV_snd h), (openV_flat (snd_jnd h)).1]
theorem same_open {x : Sx} (h : x.snd = true) : sameB x.openV x = true := by
  unfold sameB
  rw [openV_snd h, h, openV_flV h, exact_self]; rfl
mutual
theorem flatS_bones : ∀ (x : Sx) (M S : List Int), (x.flatS M S).dt = x.dt ∧ ∀ r, (x.flatS M S).shal r = x.shal r
  | .mk k t n l xs a m u, M, S => by
    have h := flatL_bones xs (joM M S m u) (joS M S m u)
    simp only [Sx.flatS, Sx.dt, Sx.shal]
    exact ⟨by rw [h.1], fun r => by rw [h.2]⟩
theorem flatL_bones : ∀ (xs : List Sx) (M S : List Int), Sx.dts (Sx.flatL xs M S) = Sx.dts xs ∧ ∀ r, Sx.shalL (Sx.flatL xs M S) r = Sx.shalL xs r
  | [], M, S => ⟨by simp only [Sx.flatL], fun r => by simp only [Sx.flatL]⟩
  | x :: xs, M, S => by
    have h1 := flatS_bones x M S
    have h2 := flatL_bones xs M S
    simp only [Sx.flatL, Sx.dts, Sx.shalL]
    exact ⟨by rw [h1.1, h2.1], fun r => by rw [h1.2, h2.2]⟩
end
mutual
theorem flat_flat : ∀ (x : Sx) (M S : List Int), x.lean → x.jnd M S = true → (x.flatS M S).flatS [] [] = x.flatS M S ∧ (x.flatS M S).jnd [] [] = true
  | .mk k t n l xs a m u, M, S, hl, h => by
    unfold Sx.lean at hl
    unfold Sx.jnd at h
    rw [Bool.and_eq_true, decide_eq_true_eq] at h
    have hs := jo_snd h.1
    have hn := jnE_nil (nil_jnE hs)
    have hr := flatL_flat xs (joM M S m u) (joS M S m u) hl.2 h.2
    simp only [Sx.flatS, Sx.jnd]
    by_cases h4 : k = 4
    · have hx : xs = [] := by rcases hl.1 with h | h; omega; exact h
      subst hx
      simp only [if_pos h4, hn.1, hn.2, Sx.flatL, Sx.jndL, nil_jnE hs]
      exact ⟨trivial, rfl⟩
    · simp only [if_neg h4, nils.1, nils.2, hr.1, hr.2, nil_jnE wrSnd_nil]
      exact ⟨trivial, rfl⟩
theorem flatL_flat : ∀ (xs : List Sx) (M S : List Int), Sx.leans xs → Sx.jndL xs M S = true → Sx.flatL (Sx.flatL xs M S) [] [] = Sx.flatL xs M S ∧ Sx.jndL (Sx.flatL xs M S) [] [] = true
  | [], M, S, _, _ => by simp only [Sx.flatL, Sx.jndL]; exact ⟨trivial, trivial⟩
  | x :: xs, M, S, hl, h => by
    unfold Sx.leans at hl
    simp only [Sx.jndL, Bool.and_eq_true] at h
    have h1 := flat_flat x M S hl.1 h.1
    have h2 := flatL_flat xs M S hl.2 h.2
    simp only [Sx.flatL, Sx.jndL]
    rw [h1.1, h1.2, h2.1, h2.2]
    exact ⟨rfl, rfl⟩
end
theorem flV1_snd {x : Sx} (h : x.snd = true) : x.flV1.snd = true := by
  rw [← flat_snd h]
  exact snd_of h (flatS_bones x [] []).1 ((flatS_bones x [] []).2 64) (flat_flat x [] [] (snd_lean h) (snd_jnd h)).2
theorem flV1_flV {x : Sx} (h : x.snd = true) : x.flV1.flV1 = x.flV1 := by
  rw [← flat_snd (flV1_snd h), ← flat_snd h, (flat_flat x [] [] (snd_lean h) (snd_jnd h)).1]
theorem same_flat {x : Sx} (h : x.snd = true) : sameB x x.flV1 = true := by
  unfold sameB
  rw [flV1_snd h, h, flV1_flV h, exact_self]; rfl
theorem jo_par {m s n t : List Int} (h : jnE m s n t = 0) : (joS m s n t).length % 2 = (s.length + t.length) % 2 := by
  unfold joS jnS
  rw [if_pos h]
  split
  · rename_i hc
    unfold cnP at hc
    rw [List.length_append, List.length_take, List.length_drop]
    omega
  · rw [List.length_append]
mutual
theorem flat_par : ∀ (x : Sx) (M S M' S' : List Int), x.jnd M S = true → x.jnd M' S' = true → S.length % 2 ≠ S'.length % 2 → x.syms = true → (x.flatS M S).exact (x.flatS M' S') = false
  | .mk k t n l xs a m u, M, S, M', S', h, h', hp, hs => by
    unfold Sx.jnd at h h'
    rw [Bool.and_eq_true, decide_eq_true_eq] at h h'
    have p1 := jo_par h.1
    have p2 := jo_par h'.1
    simp only [Sx.flatS, Sx.exact]
    unfold Sx.syms at hs
    rw [Bool.or_eq_true] at hs
    rcases hs with hs | hs
    · rw [flatL_par xs _ _ _ _ h.2 h'.2 (by omega) hs]
      simp
    · have h4 : k = 4 := of_decide_eq_true hs
      rw [if_pos h4, if_pos h4, if_pos h4, if_pos h4]
      have : ¬ joS M S m u = joS M' S' m u := fun e => by rw [e] at p1; omega
      rw [decide_eq_false this]
      simp
theorem flatL_par : ∀ (xs : List Sx) (M S M' S' : List Int), Sx.jndL xs M S = true → Sx.jndL xs M' S' = true → S.length % 2 ≠ S'.length % 2 → Sx.symsL xs = true → Sx.exactL (Sx.flatL xs M S) (Sx.flatL xs M' S') = false
  | [], _, _, _, _, _, _, _, hs => by simp only [Sx.symsL] at hs; cases hs
  | x :: xs, M, S, M', S', h, h', hp, hs => by
    simp only [Sx.jndL, Bool.and_eq_true] at h h'
    simp only [Sx.symsL, Bool.or_eq_true] at hs
    simp only [Sx.flatL]
    rw [exactL_cons]
    rcases hs with hs | hs
    · rw [flat_par x M S M' S' h.1 h'.1 hp hs]; rfl
    · rw [flatL_par xs M S M' S' h.2 h'.2 hp hs, Bool.and_false]
end
mutual
theorem flat_nosym : ∀ (x : Sx) (M S M' S' : List Int), x.syms = false → x.flatS M S = x.flatS M' S'
  | .mk k t n l xs a m u, M, S, M', S', hs => by
    unfold Sx.syms at hs
    rw [Bool.or_eq_false_iff, decide_eq_false_iff_not] at hs
    simp only [Sx.flatS]
    rw [if_neg hs.2, if_neg hs.2, if_neg hs.2, if_neg hs.2, flatL_nosym xs (joM M S m u) (joS M S m u) (joM M' S' m u) (joS M' S' m u) hs.1]
theorem flatL_nosym : ∀ (xs : List Sx) (M S M' S' : List Int), Sx.symsL xs = false → Sx.flatL xs M S = Sx.flatL xs M' S'
  | [], _, _, _, _, _ => by simp only [Sx.flatL]
  | x :: xs, M, S, M', S', hs => by
    simp only [Sx.symsL, Bool.or_eq_false_iff] at hs
    simp only [Sx.flatL]
    rw [flat_nosym x M S M' S' hs.1, flatL_nosym xs M S M' S' hs.2]
end
theorem jnd_push {x : Sx} {M S : List Int} (h : (pushV x M S).jnd [] [] = true) (hE : jnE M S x.ms x.us = 0) : x.jnd M S = true ∧ (pushV x M S).flatS [] [] = x.flatS M S := by
  refine ⟨?_, flatS_with (nil_jo M S x.ms x.us).1 (nil_jo M S x.ms x.us).2⟩
  unfold pushV at h
  have hn := nil_jo M S x.ms x.us
  obtain ⟨k, t, n, l, xs, a, m, u⟩ := x
  unfold Sx.withW Sx.jnd at h
  unfold Sx.jnd
  simp only [Sx.ms, Sx.us] at hE hn h
  rw [hE]
  rw [hn.1, hn.2, Bool.and_eq_true] at h
  rw [h.2]; rfl
theorem pushE_zero {x : Sx} {M S : List Int} (h : pushE x M S = 0) : x.snd = true ∧ wrSnd M S = true ∧ jnE M S x.ms x.us = 0 ∧ (pushV x M S).snd = true := by
  unfold pushE at h
  split at h
  · rename_i h1
    split at h
    · rename_i h2
      split at h
      · rename_i h3
        split at h
        · rename_i h4; exact ⟨h1, h2, h3, h4⟩
        · omega
      · rename_i h3; exact absurd h h3
    · omega
  · omega
theorem same_mark {x : Sx} {mk : Int} (h : pushE x [mk] [0] = 0) : sameB (pushV x [mk] [0]) x = !x.syms := by
  obtain ⟨h1, h2, h3, h4⟩ := pushE_zero h
  have hj := jnd_push (snd_jnd h4) h3
  unfold sameB
  rw [h4, h1, Bool.true_and, Bool.true_and, ← flat_snd h4, ← flat_snd h1, hj.2]
  cases hs : x.syms with
  | true => exact flat_par x [mk] [0] [] [] hj.1 (snd_jnd h1) (by simp) hs
  | false => rw [flat_nosym x [mk] [0] [] [] hs, exact_self]; rfl
end
set_option maxRecDepth 100000
section
def law10_StxSame_lv : List Nat → Keep := lvOf []
def law10_StxSame_H (R : TV → List Ob → Prop) (x0 : Int) (x1 : ByteArray) (x2 : Bool) (x3 : LL) (x4 : LL) (x5 : Int) (x6 : LL) (x7 : LL) (y0 : Int) (y1 : ByteArray) (y2 : Bool) (y3 : LL) (y4 : LL) (y5 : Int) (y6 : LL) (y7 : LL) (mark : Int) : Prop :=
  (∃ b24 : Bool, ((Fn Tryz.prog 15 [] [] (TV.one (AV.fz (FV.bool b24))) []) ∧ ((((Bool.not b24) = true) → (∃ b25 : Bool, ((Fn Tryz.prog 15 [] [] (TV.one (AV.fz (FV.bool b25))) []) ∧ (R (TV.one (AV.fz (FV.bool b25))) [])))) ∧ (((Bool.not b24) = false) → (∃ b26 : Bool, ((Fn Tryz.prog 16 [(TV.agg [(AV.fz (FV.int .i64 x0)), (AV.fz (FV.str x1)), (AV.fz (FV.bool x2)), (AV.fz (FV.sl 1 x3)), (AV.fz (FV.sl 8 x4)), (AV.fz (FV.int .i64 x5)), (AV.fz (FV.sl 1 x6)), (AV.fz (FV.sl 1 x7))]), (TV.one (AV.fz (FV.int .i64 1)))] [] (TV.one (AV.fz (FV.bool b26))) []) ∧ ((((Bool.not b26) = true) → (∃ b27 : Bool, ((Fn Tryz.prog 15 [] [] (TV.one (AV.fz (FV.bool b27))) []) ∧ (R (TV.one (AV.fz (FV.bool b27))) [])))) ∧ (((Bool.not b26) = false) → (∃ b28 : Bool, ((Fn Tryz.prog 16 [(TV.agg [(AV.fz (FV.int .i64 y0)), (AV.fz (FV.str y1)), (AV.fz (FV.bool y2)), (AV.fz (FV.sl 1 y3)), (AV.fz (FV.sl 8 y4)), (AV.fz (FV.int .i64 y5)), (AV.fz (FV.sl 1 y6)), (AV.fz (FV.sl 1 y7))]), (TV.one (AV.fz (FV.int .i64 1)))] [] (TV.one (AV.fz (FV.bool b28))) []) ∧ ((((Bool.not b28) = true) → (∃ b29 : Bool, ((Fn Tryz.prog 15 [] [] (TV.one (AV.fz (FV.bool b29))) []) ∧ (R (TV.one (AV.fz (FV.bool b29))) [])))) ∧ (((Bool.not b28) = false) → (∃ n23 : Int, (∃ s10 : ByteArray, (∃ b30 : Bool, (∃ es42 : LL, (∃ es43 : LL, (∃ n24 : Int, (∃ es44 : LL, (∃ es45 : LL, ((Fn Tryz.prog 18 [(TV.agg [(AV.fz (FV.int .i64 x0)), (AV.fz (FV.str x1)), (AV.fz (FV.bool x2)), (AV.fz (FV.sl 1 x3)), (AV.fz (FV.sl 8 x4)), (AV.fz (FV.int .i64 x5)), (AV.fz (FV.sl 1 x6)), (AV.fz (FV.sl 1 x7))])] [] (TV.agg [(AV.fz (FV.int .i64 n23)), (AV.fz (FV.str s10)), (AV.fz (FV.bool b30)), (AV.fz (FV.sl 1 es42)), (AV.fz (FV.sl 8 es43)), (AV.fz (FV.int .i64 n24)), (AV.fz (FV.sl 1 es44)), (AV.fz (FV.sl 1 es45))]) []) ∧ (∃ n25 : Int, (∃ s11 : ByteArray, (∃ b31 : Bool, (∃ es46 : LL, (∃ es47 : LL, (∃ n26 : Int, (∃ es48 : LL, (∃ es49 : LL, ((Fn Tryz.prog 18 [(TV.agg [(AV.fz (FV.int .i64 y0)), (AV.fz (FV.str y1)), (AV.fz (FV.bool y2)), (AV.fz (FV.sl 1 y3)), (AV.fz (FV.sl 8 y4)), (AV.fz (FV.int .i64 y5)), (AV.fz (FV.sl 1 y6)), (AV.fz (FV.sl 1 y7))])] [] (TV.agg [(AV.fz (FV.int .i64 n25)), (AV.fz (FV.str s11)), (AV.fz (FV.bool b31)), (AV.fz (FV.sl 1 es46)), (AV.fz (FV.sl 8 es47)), (AV.fz (FV.int .i64 n26)), (AV.fz (FV.sl 1 es48)), (AV.fz (FV.sl 1 es49))]) []) ∧ (∃ b32 : Bool, ((Fn Tryz.prog 28 [(TV.agg [(AV.fz (FV.int .i64 n23)), (AV.fz (FV.str s10)), (AV.fz (FV.bool b30)), (AV.fz (FV.sl 1 es42)), (AV.fz (FV.sl 8 es43)), (AV.fz (FV.int .i64 n24)), (AV.fz (FV.sl 1 es44)), (AV.fz (FV.sl 1 es45))]), (TV.agg [(AV.fz (FV.int .i64 n25)), (AV.fz (FV.str s11)), (AV.fz (FV.bool b31)), (AV.fz (FV.sl 1 es46)), (AV.fz (FV.sl 8 es47)), (AV.fz (FV.int .i64 n26)), (AV.fz (FV.sl 1 es48)), (AV.fz (FV.sl 1 es49))])] [] (TV.one (AV.fz (FV.bool b32))) []) ∧ (∃ b33 : Bool, ((Fn Tryz.prog 29 [(TV.agg [(AV.fz (FV.int .i64 x0)), (AV.fz (FV.str x1)), (AV.fz (FV.bool x2)), (AV.fz (FV.sl 1 x3)), (AV.fz (FV.sl 8 x4)), (AV.fz (FV.int .i64 x5)), (AV.fz (FV.sl 1 x6)), (AV.fz (FV.sl 1 x7))]), (TV.agg [(AV.fz (FV.int .i64 y0)), (AV.fz (FV.str y1)), (AV.fz (FV.bool y2)), (AV.fz (FV.sl 1 y3)), (AV.fz (FV.sl 8 y4)), (AV.fz (FV.int .i64 y5)), (AV.fz (FV.sl 1 y6)), (AV.fz (FV.sl 1 y7))])] [] (TV.one (AV.fz (FV.bool b33))) []) ∧ ((((Bool.not (b32 == b33)) = true) → (R (TV.one (AV.fz (FV.bool false))) [])) ∧ (((Bool.not (b32 == b33)) = false) → (∃ b34 : Bool, ((Fn Tryz.prog 23 [(TV.agg [(AV.fz (FV.int .i64 x0)), (AV.fz (FV.str x1)), (AV.fz (FV.bool x2)), (AV.fz (FV.sl 1 x3)), (AV.fz (FV.sl 8 x4)), (AV.fz (FV.int .i64 x5)), (AV.fz (FV.sl 1 x6)), (AV.fz (FV.sl 1 x7))])] [] (TV.one (AV.fz (FV.bool b34))) []) ∧ ((((Bool.not b34) = true) → (∃ n27 : Int, (∃ s12 : ByteArray, (∃ b35 : Bool, (∃ es50 : LL, (∃ es51 : LL, (∃ n28 : Int, (∃ es52 : LL, (∃ es53 : LL, ((Fn Tryz.prog 18 [(TV.agg [(AV.fz (FV.int .i64 x0)), (AV.fz (FV.str x1)), (AV.fz (FV.bool x2)), (AV.fz (FV.sl 1 x3)), (AV.fz (FV.sl 8 x4)), (AV.fz (FV.int .i64 x5)), (AV.fz (FV.sl 1 x6)), (AV.fz (FV.sl 1 x7))])] [] (TV.agg [(AV.fz (FV.int .i64 n27)), (AV.fz (FV.str s12)), (AV.fz (FV.bool b35)), (AV.fz (FV.sl 1 es50)), (AV.fz (FV.sl 8 es51)), (AV.fz (FV.int .i64 n28)), (AV.fz (FV.sl 1 es52)), (AV.fz (FV.sl 1 es53))]) []) ∧ (∃ n29 : Int, (∃ s13 : ByteArray, (∃ b36 : Bool, (∃ es54 : LL, (∃ es55 : LL, (∃ n30 : Int, (∃ es56 : LL, (∃ es57 : LL, ((Fn Tryz.prog 18 [(TV.agg [(AV.fz (FV.int .i64 x0)), (AV.fz (FV.str x1)), (AV.fz (FV.bool x2)), (AV.fz (FV.sl 1 x3)), (AV.fz (FV.sl 8 x4)), (AV.fz (FV.int .i64 x5)), (AV.fz (FV.sl 1 x6)), (AV.fz (FV.sl 1 x7))])] [] (TV.agg [(AV.fz (FV.int .i64 n29)), (AV.fz (FV.str s13)), (AV.fz (FV.bool b36)), (AV.fz (FV.sl 1 es54)), (AV.fz (FV.sl 8 es55)), (AV.fz (FV.int .i64 n30)), (AV.fz (FV.sl 1 es56)), (AV.fz (FV.sl 1 es57))]) []) ∧ (∃ b37 : Bool, ((Fn Tryz.prog 28 [(TV.agg [(AV.fz (FV.int .i64 n27)), (AV.fz (FV.str s12)), (AV.fz (FV.bool b35)), (AV.fz (FV.sl 1 es50)), (AV.fz (FV.sl 8 es51)), (AV.fz (FV.int .i64 n28)), (AV.fz (FV.sl 1 es52)), (AV.fz (FV.sl 1 es53))]), (TV.agg [(AV.fz (FV.int .i64 n29)), (AV.fz (FV.str s13)), (AV.fz (FV.bool b36)), (AV.fz (FV.sl 1 es54)), (AV.fz (FV.sl 8 es55)), (AV.fz (FV.int .i64 n30)), (AV.fz (FV.sl 1 es56)), (AV.fz (FV.sl 1 es57))])] [] (TV.one (AV.fz (FV.bool b37))) []) ∧ (R (TV.one (AV.fz (FV.bool (Bool.not b37)))) [])))))))))))))))))))))) ∧ (((Bool.not b34) = false) → (∃ n31 : Int, (∃ s14 : ByteArray, (∃ b38 : Bool, (∃ es58 : LL, (∃ es59 : LL, (∃ n32 : Int, (∃ es60 : LL, (∃ es61 : LL, ((Fn Tryz.prog 18 [(TV.agg [(AV.fz (FV.int .i64 x0)), (AV.fz (FV.str x1)), (AV.fz (FV.bool x2)), (AV.fz (FV.sl 1 x3)), (AV.fz (FV.sl 8 x4)), (AV.fz (FV.int .i64 x5)), (AV.fz (FV.sl 1 x6)), (AV.fz (FV.sl 1 x7))])] [] (TV.agg [(AV.fz (FV.int .i64 n31)), (AV.fz (FV.str s14)), (AV.fz (FV.bool b38)), (AV.fz (FV.sl 1 es58)), (AV.fz (FV.sl 8 es59)), (AV.fz (FV.int .i64 n32)), (AV.fz (FV.sl 1 es60)), (AV.fz (FV.sl 1 es61))]) []) ∧ (∃ n33 : Int, (∃ s15 : ByteArray, (∃ b39 : Bool, (∃ es62 : LL, (∃ es63 : LL, (∃ n34 : Int, (∃ es64 : LL, (∃ es65 : LL, (∃ n35 : Int, ((Fn Tryz.prog 21 [(TV.agg [(AV.fz (FV.int .i64 n31)), (AV.fz (FV.str s14)), (AV.fz (FV.bool b38)), (AV.fz (FV.sl 1 es58)), (AV.fz (FV.sl 8 es59)), (AV.fz (FV.int .i64 n32)), (AV.fz (FV.sl 1 es60)), (AV.fz (FV.sl 1 es61))])] [] (TV.tup [(true, [(AV.fz (FV.int .i64 n33)), (AV.fz (FV.str s15)), (AV.fz (FV.bool b39)), (AV.fz (FV.sl 1 es62)), (AV.fz (FV.sl 8 es63)), (AV.fz (FV.int .i64 n34)), (AV.fz (FV.sl 1 es64)), (AV.fz (FV.sl 1 es65))]), (false, [(AV.fz (FV.int .i64 n35))])]) []) ∧ (∃ n36 : Int, (∃ s16 : ByteArray, (∃ b40 : Bool, (∃ es66 : LL, (∃ es67 : LL, (∃ n37 : Int, (∃ es68 : LL, (∃ es69 : LL, ((Fn Tryz.prog 18 [(TV.agg [(AV.fz (FV.int .i64 x0)), (AV.fz (FV.str x1)), (AV.fz (FV.bool x2)), (AV.fz (FV.sl 1 x3)), (AV.fz (FV.sl 8 x4)), (AV.fz (FV.int .i64 x5)), (AV.fz (FV.sl 1 x6)), (AV.fz (FV.sl 1 x7))])] [] (TV.agg [(AV.fz (FV.int .i64 n36)), (AV.fz (FV.str s16)), (AV.fz (FV.bool b40)), (AV.fz (FV.sl 1 es66)), (AV.fz (FV.sl 8 es67)), (AV.fz (FV.int .i64 n37)), (AV.fz (FV.sl 1 es68)), (AV.fz (FV.sl 1 es69))]) []) ∧ (∃ n38 : Int, (∃ s17 : ByteArray, (∃ b41 : Bool, (∃ es70 : LL, (∃ es71 : LL, (∃ n39 : Int, (∃ es72 : LL, (∃ es73 : LL, (∃ n40 : Int, ((Fn Tryz.prog 22 [(TV.agg [(AV.fz (FV.int .i64 n36)), (AV.fz (FV.str s16)), (AV.fz (FV.bool b40)), (AV.fz (FV.sl 1 es66)), (AV.fz (FV.sl 8 es67)), (AV.fz (FV.int .i64 n37)), (AV.fz (FV.sl 1 es68)), (AV.fz (FV.sl 1 es69))])] [] (TV.tup [(true, [(AV.fz (FV.int .i64 n38)), (AV.fz (FV.str s17)), (AV.fz (FV.bool b41)), (AV.fz (FV.sl 1 es70)), (AV.fz (FV.sl 8 es71)), (AV.fz (FV.int .i64 n39)), (AV.fz (FV.sl 1 es72)), (AV.fz (FV.sl 1 es73))]), (false, [(AV.fz (FV.int .i64 n40))])]) []) ∧ (∃ n41 : Int, (∃ s18 : ByteArray, (∃ b42 : Bool, (∃ es74 : LL, (∃ es75 : LL, (∃ n42 : Int, (∃ es76 : LL, (∃ es77 : LL, ((Fn Tryz.prog 18 [(TV.agg [(AV.fz (FV.int .i64 x0)), (AV.fz (FV.str x1)), (AV.fz (FV.bool x2)), (AV.fz (FV.sl 1 x3)), (AV.fz (FV.sl 8 x4)), (AV.fz (FV.int .i64 x5)), (AV.fz (FV.sl 1 x6)), (AV.fz (FV.sl 1 x7))])] [] (TV.agg [(AV.fz (FV.int .i64 n41)), (AV.fz (FV.str s18)), (AV.fz (FV.bool b42)), (AV.fz (FV.sl 1 es74)), (AV.fz (FV.sl 8 es75)), (AV.fz (FV.int .i64 n42)), (AV.fz (FV.sl 1 es76)), (AV.fz (FV.sl 1 es77))]) []) ∧ (∃ es78 : LL, (∃ es79 : LL, ((Fn Tryz.prog 30 [(TV.one (AV.fz (FV.int .i64 (IntKind.wrap .i64 ((IntKind.wrap .i64 mark) + 1)))))] [] (TV.agg [(AV.fz (FV.sl 1 es78)), (AV.fz (FV.sl 1 es79))]) []) ∧ (∃ n43 : Int, (∃ s19 : ByteArray, (∃ b43 : Bool, (∃ es80 : LL, (∃ es81 : LL, (∃ n44 : Int, (∃ es82 : LL, (∃ es83 : LL, (∃ n45 : Int, ((Fn Tryz.prog 17 [(TV.agg [(AV.fz (FV.int .i64 n41)), (AV.fz (FV.str s18)), (AV.fz (FV.bool b42)), (AV.fz (FV.sl 1 es74)), (AV.fz (FV.sl 8 es75)), (AV.fz (FV.int .i64 n42)), (AV.fz (FV.sl 1 es76)), (AV.fz (FV.sl 1 es77))]), (TV.agg [(AV.fz (FV.sl 1 es78)), (AV.fz (FV.sl 1 es79))])] [] (TV.tup [(true, [(AV.fz (FV.int .i64 n43)), (AV.fz (FV.str s19)), (AV.fz (FV.bool b43)), (AV.fz (FV.sl 1 es80)), (AV.fz (FV.sl 8 es81)), (AV.fz (FV.int .i64 n44)), (AV.fz (FV.sl 1 es82)), (AV.fz (FV.sl 1 es83))]), (false, [(AV.fz (FV.int .i64 n45))])]) []) ∧ (∃ b44 : Bool, ((Fn Tryz.prog 28 [(TV.agg [(AV.fz (FV.int .i64 n33)), (AV.fz (FV.str s15)), (AV.fz (FV.bool b39)), (AV.fz (FV.sl 1 es62)), (AV.fz (FV.sl 8 es63)), (AV.fz (FV.int .i64 n34)), (AV.fz (FV.sl 1 es64)), (AV.fz (FV.sl 1 es65))]), (TV.agg [(AV.fz (FV.int .i64 x0)), (AV.fz (FV.str x1)), (AV.fz (FV.bool x2)), (AV.fz (FV.sl 1 x3)), (AV.fz (FV.sl 8 x4)), (AV.fz (FV.int .i64 x5)), (AV.fz (FV.sl 1 x6)), (AV.fz (FV.sl 1 x7))])] [] (TV.one (AV.fz (FV.bool b44))) []) ∧ (((b44 = true) → (∃ b45 : Bool, ((Fn Tryz.prog 28 [(TV.agg [(AV.fz (FV.int .i64 x0)), (AV.fz (FV.str x1)), (AV.fz (FV.bool x2)), (AV.fz (FV.sl 1 x3)), (AV.fz (FV.sl 8 x4)), (AV.fz (FV.int .i64 x5)), (AV.fz (FV.sl 1 x6)), (AV.fz (FV.sl 1 x7))]), (TV.agg [(AV.fz (FV.int .i64 n38)), (AV.fz (FV.str s17)), (AV.fz (FV.bool b41)), (AV.fz (FV.sl 1 es70)), (AV.fz (FV.sl 8 es71)), (AV.fz (FV.int .i64 n39)), (AV.fz (FV.sl 1 es72)), (AV.fz (FV.sl 1 es73))])] [] (TV.one (AV.fz (FV.bool b45))) []) ∧ (((b45 = true) → ((((n45 != 0) = true) → (R (TV.one (AV.fz (FV.bool true))) [])) ∧ (((n45 != 0) = false) → (∃ b46 : Bool, ((Fn Tryz.prog 28 [(TV.agg [(AV.fz (FV.int .i64 n43)), (AV.fz (FV.str s19)), (AV.fz (FV.bool b43)), (AV.fz (FV.sl 1 es80)), (AV.fz (FV.sl 8 es81)), (AV.fz (FV.int .i64 n44)), (AV.fz (FV.sl 1 es82)), (AV.fz (FV.sl 1 es83))]), (TV.agg [(AV.fz (FV.int .i64 x0)), (AV.fz (FV.str x1)), (AV.fz (FV.bool x2)), (AV.fz (FV.sl 1 x3)), (AV.fz (FV.sl 8 x4)), (AV.fz (FV.int .i64 x5)), (AV.fz (FV.sl 1 x6)), (AV.fz (FV.sl 1 x7))])] [] (TV.one (AV.fz (FV.bool b46))) []) ∧ (∃ b47 : Bool, ((Fn Tryz.prog 31 [(TV.agg [(AV.fz (FV.int .i64 x0)), (AV.fz (FV.str x1)), (AV.fz (FV.bool x2)), (AV.fz (FV.sl 1 x3)), (AV.fz (FV.sl 8 x4)), (AV.fz (FV.int .i64 x5)), (AV.fz (FV.sl 1 x6)), (AV.fz (FV.sl 1 x7))])] [] (TV.one (AV.fz (FV.bool b47))) []) ∧ (R (TV.one (AV.fz (FV.bool (b46 == (Bool.not b47))))) [])))))))) ∧ ((b45 = false) → (R (TV.one (AV.fz (FV.bool false))) [])))))) ∧ ((b44 = false) → (R (TV.one (AV.fz (FV.bool false))) [])))))))))))))))))))))))))))))))))))))))))))))))))))))))))))))))))))))))))))))))))))))))))))))))))))))))))
theorem law10_StxSame_fn (x0 : Int) (x1 : ByteArray) (x2 : Bool) (x3 : LL) (x4 : LL) (x5 : Int) (x6 : LL) (x7 : LL) (y0 : Int) (y1 : ByteArray) (y2 : Bool) (y3 : LL) (y4 : LL) (y5 : Int) (y6 : LL) (y7 : LL) (mark : Int) {r : TV} {h : List Ob} (H : law10_StxSame_H (fun r' h' => r' = r ∧ h' = h) x0 x1 x2 x3 x4 x5 x6 x7 y0 y1 y2 y3 y4 y5 y6 y7 mark) : Fn Tryz.prog 5 [(TV.agg [(AV.fz (FV.int .i64 x0)), (AV.fz (FV.str x1)), (AV.fz (FV.bool x2)), (AV.fz (FV.sl 1 x3)), (AV.fz (FV.sl 8 x4)), (AV.fz (FV.int .i64 x5)), (AV.fz (FV.sl 1 x6)), (AV.fz (FV.sl 1 x7))]), (TV.agg [(AV.fz (FV.int .i64 y0)), (AV.fz (FV.str y1)), (AV.fz (FV.bool y2)), (AV.fz (FV.sl 1 y3)), (AV.fz (FV.sl 8 y4)), (AV.fz (FV.int .i64 y5)), (AV.fz (FV.sl 1 y6)), (AV.fz (FV.sl 1 y7))]), (TV.one (AV.fz (FV.int .u8 mark)))] [] r h :=
  Fn.by_tr (M := (modeOf [] [])) (lv := law10_StxSame_lv) (own := none) (F := Tryz.f5) (by kernel_rfl) (by kernel_rfl) (by first | decide | simp) (fun _ _ h => h) (by kernel_rfl) H
end
section
theorem mark_all {mk : Int} (h0 : 0 ≤ mk) (h1 : mk ≤ 1000) : All64 [mk] ∧ All64 [0] := ⟨⟨by simp only [List.mem_singleton, forall_eq, I64]; omega, by simp⟩, ⟨by simp [I64], by simp⟩⟩
set_option maxHeartbeats 1000000 in
theorem law_StxSame (xs : List TV) (h : TyAll Tryz.prog [28, 28, 5] xs) (hb : bulkA xs ≤ 1048576) : Fn Tryz.prog 5 xs [] (.one (.fz (.bool true))) [] := by
  cases h with
  | cons h1 h =>
  cases h with
  | cons h2 h =>
  cases h with
  | cons h3 h =>
  cases h
  simp only [bulkA] at hb
  obtain ⟨x, rfl, hx, _⟩ := tyV_Sx h1 (by omega)
  obtain ⟨y, rfl, hy, _⟩ := tyV_Sx h2 (by omega)
  obtain ⟨mark, rfl, hm0', hm1'⟩ := tyV_int h3 Tryz.underlying5
  have hm0 : 0 ≤ mark := hm0'
  have hm1 : mark ≤ 255 := hm1'
  clear hm0' hm1'
  have em : IntKind.wrap .i64 (IntKind.wrap .i64 mark + 1) = mark + 1 := by rw [w64 (n := mark) (by omega) (by omega), w64 (by omega) (by omega)]
  obtain ⟨hM, hS⟩ := mark_all (mk := mark + 1) (by omega) (by omega)
  have c1 := light_ok10 x 1 hx (by omega) (by omega)
  have c1' := light_ok10 y 1 hy (by omega) (by omega)
  have c2 := rOwn_ok x hx
  have c2' := rOwn_ok y hy
  have c3 := sSame_ok x y hx hy
  have c4 := rSame9_ok x y hx hy
  have c5 := rSound9_ok x hx
  have c6 := sSame_ok x x hx hx
  have c7 := sOpen_ok x hx
  have c8 := sFlat_ok x hx
  have c9 := mark_ok (mark + 1) (by omega)
  have c10 := sPush_ok x hx [mark + 1] [0] hM hS
  have d1 := sSame_ok x.openR x (openR_ok hx) hx
  have d2 := sSame_ok x x.flR hx (flR_ok hx)
  have d3 := sSame_ok (pushR x [mark + 1] [0]) x (pushR_ok hx hM hS) hx
  have d4 := syms_ok x hx
  have e1 : x.snd = true → sameB x.openR x = true := fun h => by unfold Sx.openR; rw [if_pos h, same_open h]
  have e2 : x.snd = true → sameB x x.flR = true := fun h => by unfold Sx.flR; rw [if_pos h, same_flat h]
  have e3 : pushE x [mark + 1] [0] = 0 → sameB (pushR x [mark + 1] [0]) x = !x.syms := fun h => by unfold pushR; rw [if_pos h, same_mark h]
  have e4 : x.snd = false → sameB x x = false := fun h => by unfold sameB; rw [h, Bool.false_and]
  generalize x.lite 1 = b0 at *
  generalize y.lite 1 = b0' at *
  generalize sameB x y = b1 at *
  generalize sameB x x = b2 at *
  generalize sameB x.openR x = b3 at *
  generalize sameB x x.flR = b4 at *
  generalize sameB (pushR x [mark + 1] [0]) x = b5 at *
  generalize x.syms = b6 at *
  generalize pushR x [mark + 1] [0] = p at *
  generalize pushE x [mark + 1] [0] = pe at *
  generalize x.openR = o at *
  generalize x.flR = f at *
  generalize x.errE = oe at *
  generalize x.snd = b7 at *
  obtain ⟨k, t, n, l, ys, a, m, s⟩ := x
  obtain ⟨k', t', n', l', ys', a', m', s'⟩ := y
  obtain ⟨pk, pt, pn, pl, px, pa, pm, ps⟩ := p
  obtain ⟨ok, ot, on, ol, ox, oa, om, os⟩ := o
  obtain ⟨fk, ft, fn, fl, fx, fa, fm, fs⟩ := f
  unfold fzX at *
  simp only [Sx.row, List.map_cons, List.map_nil] at c1 c1' c2 c2' c3 c4 c5 c6 c7 c8 c10 d1 d2 d3 d4 ⊢
  refine law10_StxSame_fn _ _ _ _ _ _ _ _ _ _ _ _ _ _ _ _ _ ?_
  unfold law10_StxSame_H
  rw [em]
  refine ⟨_, answers10_ok, fun h => (by cases h), fun _ => ⟨_, c1, ?_⟩⟩
  rw [not_t, not_f]
  refine ⟨fun _ => ⟨_, answers10_ok, rfl, rfl⟩, fun _ => ⟨_, c1', ?_⟩⟩
  rw [not_t, not_f]
  refine ⟨fun _ => ⟨_, answers10_ok, rfl, rfl⟩, fun _ => ⟨_, _, _, _, _, _, _, _, c2, _, _, _, _, _, _, _, _, c2', _, c3, _, c4, ?_⟩⟩
  rw [not_t, not_f]
  refine ⟨fun h => by simp at h, fun _ => ⟨_, c5, ?_⟩⟩
  rw [not_t, not_f]
  refine ⟨fun hb => ⟨_, _, _, _, _, _, _, _, c2, _, _, _, _, _, _, _, _, c2, _, c6, by rw [e4 hb]; rfl, rfl⟩, fun hb => ⟨_, _, _, _, _, _, _, _, c2, _, _, _, _, _, _, _, _, _, c7, _, _, _, _, _, _, _, _, c2, _, _, _, _, _, _, _, _, _, c8, _, _, _, _, _, _, _, _, c2, _, _, c9, _, _, _, _, _, _, _, _, _, c10, _, d1, fun _ => ⟨_, d2, fun _ => ?_, fun h => ?_⟩, fun h => ?_⟩⟩
  · rw [bne_t, bne_f]
    refine ⟨fun _ => ⟨rfl, rfl⟩, fun h0 => ⟨_, d3, _, d4, ?_, rfl⟩⟩
    rw [e3 h0]; simp
  · rw [e2 hb] at h; cases h
  · rw [e1 hb] at h; cases h
end
end Go.Proofs.YtljpbicmlcjpcaaGreatDoor.Ev
end
section
set_option linter.unusedVariables false
namespace Go.Proofs.YtljpbicmlcjpcaaGreatDoor.stxSame
open Go.ChangeShapes Go.WideShapes Go.ChangeAt Go.RowKit Go.Joins
open Go.Proofs.YtljpbicmlcjpcaaGreatDoor.Ev (Ty TyAll TabAt Glob tabs closedB openedAll trodAll_below tabAt_ints_of tabAt_ifc_of tabAt_flat_of law_StxSame returnsIn_upto witness_upto)
theorem own : ownKnob Tryz.prog.godebug = none := by kernel_rfl
theorem laidOut : laidOutB Tryz.prog = true := by kernel_rfl
set_option maxRecDepth 100000 in
theorem door_met (os : Os) (args : Array Value) : laidMetH Tryz.prog Rows.stxSameUptoRow.laid ((World.laidAll Tryz.prog os Rows.stxSameUptoRow.laid).forCall (fun _ _ => 0) ⟨#[], args, []⟩).memory :=
  Eq.mp (show laidMet Tryz.prog Rows.stxSameUptoRow.laid ((World.laidAll Tryz.prog os Rows.stxSameUptoRow.laid).forCall (fun _ _ => 0) ⟨#[], args, []⟩).memory = laidMetH Tryz.prog Rows.stxSameUptoRow.laid ((World.laidAll Tryz.prog os Rows.stxSameUptoRow.laid).forCall (fun _ _ => 0) ⟨#[], args, []⟩).memory by kernel_rfl) (laidMet_laidAll (os := os) args (by kernel_rfl) (by kernel_rfl))
set_option maxRecDepth 100000 in
theorem glob {W : World} (hL : laidMetH Tryz.prog Rows.stxSameUptoRow.laid W) : Glob W := by
  have hM : laidMet Tryz.prog Rows.stxSameUptoRow.laid W := Eq.mp (by kernel_rfl) hL
  intro x hx
  simp only [tabs, List.mem_cons, List.mem_nil_iff, or_false] at hx
  rcases hx with rfl | rfl | rfl | rfl | rfl | rfl
  · exact tabAt_flat_of (n := "unicode/utf8.first") (d := Rows.laid_unicode_utf8_first) (fs := (List.range 256).map fun c => Go.Proofs.YtljpbicmlcjpcaaGreatDoor.Ev.FV.int .u8 ((Go.Lib.firstT c : Nat) : Int)) (m := 8) hM (by kernel_rfl) (List.mem_of_getElem? (i := 6) (by kernel_rfl)) (g := 0) (t := 193) (by kernel_rfl) (by kernel_rfl) (by kernel_rfl)
  · exact tabAt_flat_of (n := "unicode/utf8.acceptRanges") (d := Rows.laid_unicode_utf8_acceptRanges) (fs := ((List.range 16).map fun i => [Go.Proofs.YtljpbicmlcjpcaaGreatDoor.Ev.FV.int .u8 ((Go.Lib.accLo i : Nat) : Int), Go.Proofs.YtljpbicmlcjpcaaGreatDoor.Ev.FV.int .u8 ((Go.Lib.accHi i : Nat) : Int)]).flatten) (m := 8) hM (by kernel_rfl) (List.mem_of_getElem? (i := 3) (by kernel_rfl)) (g := 1) (t := 197) (by kernel_rfl) (by kernel_rfl) (by kernel_rfl)
  · exact tabAt_ifc_of (n := "strconv.ErrSyntax") (d := Rows.laid_strconv_ErrSyntax) hM (by kernel_rfl) (List.mem_of_getElem? (i := 5) (by kernel_rfl)) (g := 2) (t := 166) (by kernel_rfl) (by kernel_rfl) Tryz.underlying166
  · exact tabAt_ifc_of (n := "strconv.ErrRange") (d := Rows.laid_strconv_ErrRange) hM (by kernel_rfl) (List.mem_of_getElem? (i := 4) (by kernel_rfl)) (g := 3) (t := 166) (by kernel_rfl) (by kernel_rfl) Tryz.underlying166
  · exact tabAt_flat_of (n := "internal/strconv.uint64pow10") (d := Rows.laid_internal_strconv_uint64pow10) (fs := (List.range 20).map fun i => Go.Proofs.YtljpbicmlcjpcaaGreatDoor.Ev.FV.int .u64 ((10 ^ i : Nat) : Int)) (m := 8) hM (by kernel_rfl) (List.mem_of_getElem? (i := 2) (by kernel_rfl)) (g := 5) (t := 223) (by kernel_rfl) (by kernel_rfl) (by kernel_rfl)
  · exact tabAt_flat_of (n := "math/bits.deBruijn64tab") (d := Rows.laid_math_bits_deBruijn64tab) (fs := [0, 1, 56, 2, 57, 49, 28, 3, 61, 58, 42, 50, 38, 29, 17, 4, 62, 47, 59, 36, 45, 43, 51, 22, 53, 39, 33, 30, 24, 18, 12, 5, 63, 55, 48, 27, 60, 41, 37, 16, 46, 35, 44, 21, 52, 32, 23, 11, 54, 26, 40, 15, 34, 20, 31, 10, 25, 14, 19, 9, 13, 8, 7, 6].map fun i => Go.Proofs.YtljpbicmlcjpcaaGreatDoor.Ev.FV.int .u8 i) (m := 8) hM (by kernel_rfl) (List.mem_of_getElem? (i := 1) (by kernel_rfl)) (g := 7) (t := 228) (by kernel_rfl) (by kernel_rfl) (by kernel_rfl)
set_option maxRecDepth 100000 in
theorem lifted (os : Os) (started : os.Started) (H : Type) (enc : TypeId × Value → H) :
    ReturnsInHanded {} Tryz.checked os 5 .any (fun w args => ((Rows.OpenSpec.upto Rows.stxSameSpec).pre enc Tryz.prog Tryz.f5 Rows.stxSameUptoRow.domain false w args ∧ laidMetH Tryz.prog Rows.stxSameUptoRow.laid w) ∧ sizedMet enc Tryz.prog Tryz.f5 (Rows.OpenSpec.upto Rows.stxSameSpec) false w args)
      (Rows.stxSameSpec.post enc Tryz.prog Tryz.f5 false true false false) := by
  refine returnsIn_upto (C := Tryz.checked) (X := fun w _ => laidMetH Tryz.prog Rows.stxSameUptoRow.laid w) (fun _ _ _ hh h => h.of_heap hh) own started (by kernel_rfl) Tryz.func5
    (witness_upto (enc := enc) (C := Tryz.checked) (os := os) (s := Rows.stxSameSpec) (X := fun w _ => laidMetH Tryz.prog Rows.stxSameUptoRow.laid w) (World.laidAll Tryz.prog os Rows.stxSameUptoRow.laid) #[.agg #[.int .i64 0, .string ByteArray.empty, .bool false, .slice none 0 0, .slice none 0 0, .int .i64 0, .slice none 0 0, .slice none 0 0], .agg #[.int .i64 0, .string ByteArray.empty, .bool false, .slice none 0 0, .slice none 0 0, .int .i64 0, .slice none 0 0, .slice none 0 0], .int .u8 0] 8 (World.laidAll_os _ _ _) (World.shaped_of_ZipB (by kernel_rfl) (by kernel_rfl)) (by kernel_rfl) (by kernel_rfl) (by kernel_rfl) (door_met os _)) ?_
  intro W base args ds gs before hval0 hW hcnd hbk hsz0 hL
  have hsz : (DataW.weightsEach Tryz.prog (Tryz.f5.params.toList ++ Rows.stxSameSpec.plain.varTypes Tryz.prog) (ds ++ gs)).all (· ≤ reachBytes) = true := hsz0
  have hval : ∀ (j : Nat) t v, Tryz.f5.params[j]? = some t → args[j]? = some v → Value.okWide Tryz.prog W .any base t v := hval0
  have hW' := hW
  obtain ⟨p, q, hA0, hV, rfl, hfz, hnd⟩ := hW
  have hA : DataW.TrodAll enc Tryz.prog W 0 (fun _ => true) true Tryz.f5.params.toList args.toList ds p := hA0
  rw [Tryz.params5] at hA hval hsz
  obtain ⟨rfl, rfl⟩ := trodVars_none hV
  have hA2 := hA
  obtain ⟨v0, vs0, d0, ds0, p0, q0, hargs, rfl, rfl, h0_, r0⟩ := trodAll_cons hA2
  obtain ⟨v1, vs1, d1, ds1, p1, q1, rfl, rfl, rfl, h1_, r1⟩ := trodAll_cons r0
  obtain ⟨v2, vs2, d2, ds2, p2, q2, rfl, rfl, rfl, h2_, r2⟩ := trodAll_cons r1
  obtain ⟨rfl, rfl, rfl⟩ := trodAll_nil r2
  obtain ⟨xs, h1, h2, h3, hb⟩ := openedAll (S := [28, 3, 9, 24, 4, 22, 89, 25, 26, 5]) (ts := [28, 28, 5]) (by kernel_rfl) (by decide) (fun j t v ht hv => hval j t v (by simpa using ht) (by simpa using hv)) hA (fun m hm => by simpa using List.all_eq_true.1 hsz m hm)
  refine ((law_StxSame xs h1 (Nat.le_trans hb hbk)).door (glob hL) (by simpa using h2) (fun i x hx => by obtain ⟨v, hv, hr⟩ := h3 i x hx; exact ⟨v, by simpa using hv, hr⟩)).mono fun e W' ⟨he, bel⟩ => ?_
  subst he
  exact ⟨_, rfl, _, _, _, [], _, [], hW', trodAll_mk1 (shut_bool Tryz.underlying4 _), trodAll_below laidOut bel (ts := [28, 28, 5]) (by decide +kernel) hA, rfl, bel.frame _, fun h => by cases h⟩
theorem and_tt {a b : Bool} (ha : a = true) (hb : b = true) : (a && b) = true := by rw [ha, hb]; rfl
set_option maxHeartbeats 8000000 in
theorem over : Rows.stxSameUptoRow.holds Tryz.pinned (Rows.OpenSpec.upto Rows.stxSameSpec) :=
  OpenClaim.holds_of_cond 5 Tryz.f5 rfl rfl rfl rfl rfl rfl rfl ⟨rfl, rfl, rfl, rfl, rfl⟩ rfl rfl rfl rfl rfl (by as_aux_lemma => kernel_rfl) Tryz.func5 (by unfold joinedFacts; repeat' (with_reducible refine and_tt ?_ ?_); all_goals as_aux_lemma => kernel_rfl)
    (of_decide_eq_true (by as_aux_lemma => kernel_rfl)) (by unfold Func.isWrapper; first | (rw [if_pos (by decide +kernel)]; kernel_rfl) | (rw [if_neg (by decide +kernel)]; exact ⟨rfl, rfl⟩))
    (fun os started H enc _ _ => lifted os started H enc)
theorem proved : Rows.StxSameUptoCardSaid :=
  Claim7.holds_tied_plain_at .later [] [.data, .data, .data, .data, .sentinel, .sentinel, .pinned] true (true, "5529037661ee0e6043dad4402c2ce233d65bf9417480a107ce49451cb39ad436") true
    over (fun _ h => by cases h) (by kernel_rfl) (fun _ h => by cases h) stxSameUpto_row_tie rfl ⟨rfl, rfl⟩ (by kernel_rfl) rfl
    (fun f fn hf hfn => by
      obtain rfl : f = 5 := Option.some.inj ((show Tryz.prog.funcNamed "marginalia/marginalialaw10.StxSame" = some 5 by kernel_rfl).symm.trans hf) |>.symm
      obtain rfl : fn = Tryz.f5 := (Option.some.inj (Tryz.func5.symm.trans hfn)).symm
      exact ⟨by kernel_rfl, fun j t ht => by
        rw [Tryz.params5] at ht
        have hm : t ∈ [28, 28, 5] := by simpa using Array.mem_of_getElem? ht
        have hall : ([28, 28, 5].all fun u => !Tryz.prog.wantsStandIn u) = true := by kernel_rfl
        exact (show Tryz.prog.wantsStandIn t = false by simpa using List.all_eq_true.1 hall t hm)⟩)
    (by kernel_rfl)
end Go.Proofs.YtljpbicmlcjpcaaGreatDoor.stxSame
namespace Go.Proofs.YtljpbicmlcjpcaaGreatDoor
theorem stxSameUpto_holds : Rows.StxSameUptoCardSaid := stxSame.proved
end Go.Proofs.YtljpbicmlcjpcaaGreatDoor
end
