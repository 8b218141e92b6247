/-
  Part of a claim: definitions and lemmas that its theorem leans on, packed by wip/tools/pack.py.
-/
import Derived.Test.YtljpbicmlcjpcaaGreatDoorZX5
import Derived.Test.YtljpbicmlcjpcaaGreatDoorTie
import Derived.Test.YtljpbicmlcjpcaaGreatDoorCards
import Derived.WalkKit
import Derived.ProofKit
import Derived.ShutString
import Derived.Lay
import Derived.Stop.Joined
import Derived.SevenTiedAt
set_option linter.unusedVariables false
set_option linter.unusedSimpArgs false
section
set_option linter.unusedVariables false
set_option linter.unusedSimpArgs false
namespace Go.Proofs.YtljpbicmlcjpcaaGreatDoor.Ev
open Go
abbrev sxeT (x : Sx) (e : Int) : TV := .tup [(true, x.row.map .fz), (false, [.fz (.int .i64 e)])]
def pushV (x : Sx) (M S : List Int) : Sx := x.withW (joM M S x.ms x.us) (joS M S x.ms x.us)
def pushE (x : Sx) (M S : List Int) : Int :=
  if x.snd = true then (if wrSnd M S = true then (if jnE M S x.ms x.us = 0 then (if (pushV x M S).snd = true then 0 else 6) else jnE M S x.ms x.us) else 2) else 2
def pushR (x : Sx) (M S : List Int) : Sx := if pushE x M S = 0 then pushV x M S else Sx.zero
theorem pushV_ok {x : Sx} (hx : x.ok) {M S : List Int} (hM : All64 M) (hS : All64 S) : (pushV x M S).ok := jn1_ok hM hS hx
theorem zero_ok : Sx.zero.ok := by
  unfold Sx.zero Sx.ok
  refine ⟨⟨by decide, by decide⟩, by decide, Lim.nil _, by simp, by simp, ?_, ⟨by decide, by decide⟩, all64_nil, all64_nil⟩
  unfold Sx.oks; trivial
theorem push_bad {x : Sx} {M S : List Int} {e : Int} (h : pushE x M S = e) (he : e ≠ 0) : sxeT (pushR x M S) (pushE x M S) = sxeT Sx.zero e := by
  unfold pushR; rw [h, if_neg he]
theorem push_good {x : Sx} {M S : List Int} (h : pushE x M S = 0) : sxeT (pushR x M S) (pushE x M S) = sxeT (pushV x M S) 0 := by
  unfold pushR; rw [h, if_pos rfl]
theorem sPush_ok (x : Sx) (hx : x.ok) (M S : List Int) (hM : All64 M) (hS : All64 S) : Fn Tryz.prog 17 [fzX x, fzW M S] [] (sxeT (pushR x M S) (pushE x M S)) [] := by
  have h1 := stxSound_ok x hx
  have h2 := wrapSound_ok M S hM hS
  have hmu := ok_ms hx
  have h3 := join_ok M S x.ms x.us hM hS hmu.1 hmu.2
  have h4 := xown_ok x hx
  have h5 := withR_ok x (joM M S x.ms x.us) (joS M S x.ms x.us)
  have h6 := stxSound_ok (pushV x M S) (pushV_ok hx hM hS)
  have e1 : x.snd = false → pushE x M S = 2 := fun h => by unfold pushE; rw [h]; rfl
  have e2 : x.snd = true → wrSnd M S = false → pushE x M S = 2 := fun h h' => by unfold pushE; rw [if_pos h, h']; rfl
  have e3 : x.snd = true → wrSnd M S = true → jnE M S x.ms x.us ≠ 0 → pushE x M S = jnE M S x.ms x.us := fun h h' h2 => by unfold pushE; rw [if_pos h, if_pos h', if_neg h2]
  have e4 : x.snd = true → wrSnd M S = true → jnE M S x.ms x.us = 0 → (pushV x M S).snd = false → pushE x M S = 6 := fun h h' h2 h3 => by unfold pushE; rw [if_pos h, if_pos h', if_pos h2, h3]; rfl
  have e5 : x.snd = true → wrSnd M S = true → jnE M S x.ms x.us = 0 → (pushV x M S).snd = true → pushE x M S = 0 := fun h h' h2 h3 => by unfold pushE; rw [if_pos h, if_pos h', if_pos h2, if_pos h3]
  have g1 := @push_bad x M S
  have g2 := @push_good x M S
  generalize hz : sxeT (pushR x M S) (pushE x M S) = T at *
  generalize pushE x M S = E at *
  generalize x.snd = b1 at *
  generalize (pushV x M S).snd = b3 at *
  obtain ⟨k, t, n, l, xs, a, m, u⟩ := x
  clear hz
  unfold fzX at *
  simp only [pushV, Sx.withW, Sx.ms, Sx.us, Sx.row, Sx.list, List.map_cons, List.map_nil] at *
  have h7 : Fn Tryz.prog 59 [.agg [.fz (.int .i64 k), .fz (.str t), .fz (.bool n), .fz (.sl 1 (ints .u32 l)), .fz (.sl 8 (Sx.rows xs)), .fz (.int .i64 a), .fz (.sl 1 (ints .i64 m)), .fz (.sl 1 (ints .i64 u))]] [] (fzW m u) [] := of_ok' k t n l xs a m u
  refine stxO_Push_fc _ _ _ _ _ _ _ _ _ _ ?_
  unfold stxO_Push_H
  refine ⟨_, h1, ?_⟩
  rw [not_t, not_f]
  refine ⟨fun hb => ?_, fun hb => ⟨_, h2, ?_⟩⟩
  · rw [g1 (e1 hb) (by omega)]; exact ⟨rfl, trivial, rfl⟩
  rw [not_t, not_f]
  refine ⟨fun hw => ?_, fun hw => ⟨_, _, h7, _, _, _, h3, ?_⟩⟩
  · rw [g1 (e2 hb hw) (by omega)]; exact ⟨rfl, trivial, rfl⟩
  rw [bne_t, bne_f]
  refine ⟨fun hj => ?_, fun hj => ⟨_, _, _, _, _, _, _, _, h4, _, _, _, _, _, _, _, _, h5, _, h6, ?_⟩⟩
  · rw [g1 (e3 hb hw hj) hj]; exact ⟨rfl, trivial, rfl⟩
  rw [not_t, not_f]
  refine ⟨fun hs => ?_, fun hs => ?_⟩
  · rw [g1 (e4 hb hw hj hs) (by omega)]; exact ⟨rfl, trivial, rfl⟩
  · rw [g2 (e5 hb hw hj hs)]; exact ⟨rfl, trivial, rfl⟩
theorem rPush_ok (x : Sx) (hx : x.ok) (M S : List Int) (hM : All64 M) (hS : All64 S) : Fn Tryz.prog 19 [fzX x, fzS .i64 M, fzS .i64 S] [] (sxeT (pushR x M S) (pushE x M S)) [] := by
  have h1 := rSound9_ok x hx
  have h2 := rSoundWrap_ok M S hM hS
  have hmu := ok_ms hx
  have h3 := rJoin_ok M S x.ms x.us hM hS hmu.1 hmu.2
  have h6 := rSound9_ok (pushV x M S) (pushV_ok hx hM hS)
  have e1 : x.snd = false → pushE x M S = 2 := fun h => by unfold pushE; rw [h]; rfl
  have e2 : x.snd = true → wrSnd M S = false → pushE x M S = 2 := fun h h' => by unfold pushE; rw [if_pos h, h']; rfl
  have e3 : x.snd = true → wrSnd M S = true → jnE M S x.ms x.us ≠ 0 → pushE x M S = jnE M S x.ms x.us := fun h h' h2 => by unfold pushE; rw [if_pos h, if_pos h', if_neg h2]
  have e4 : x.snd = true → wrSnd M S = true → jnE M S x.ms x.us = 0 → (pushV x M S).snd = false → pushE x M S = 6 := fun h h' h2 h3 => by unfold pushE; rw [if_pos h, if_pos h', if_pos h2, h3]; rfl
  have e5 : x.snd = true → wrSnd M S = true → jnE M S x.ms x.us = 0 → (pushV x M S).snd = true → pushE x M S = 0 := fun h h' h2 h3 => by unfold pushE; rw [if_pos h, if_pos h', if_pos h2, if_pos h3]
  have g1 := @push_bad x M S
  have g2 := @push_good x M S
  generalize hz : sxeT (pushR x M S) (pushE x M S) = T at *
  generalize pushE x M S = E at *
  generalize x.snd = b1 at *
  generalize (pushV x M S).snd = b3 at *
  obtain ⟨k, t, n, l, xs, a, m, u⟩ := x
  clear hz
  unfold fzX at *
  simp only [pushV, Sx.withW, Sx.ms, Sx.us, Sx.row, Sx.list, List.map_cons, List.map_nil] at *
  refine ref09_Push_fn _ _ _ _ _ _ _ _ _ _ ?_
  unfold ref09_Push_H
  refine ⟨_, h1, ?_⟩
  rw [not_t, not_f]
  refine ⟨fun hb => ?_, fun hb => ⟨_, h2, ?_⟩⟩
  · rw [g1 (e1 hb) (by omega)]; exact ⟨rfl, rfl⟩
  rw [not_t, not_f]
  refine ⟨fun hw => ?_, fun hw => ⟨_, _, _, h3, ?_⟩⟩
  · rw [g1 (e2 hb hw) (by omega)]; exact ⟨rfl, rfl⟩
  rw [bne_t, bne_f]
  refine ⟨fun hj => ?_, fun hj => ⟨_, h6, ?_⟩⟩
  · rw [g1 (e3 hb hw hj) hj]; exact ⟨rfl, rfl⟩
  rw [not_t, not_f]
  refine ⟨fun hs => ?_, fun hs => ?_⟩
  · rw [g1 (e4 hb hw hj hs) (by omega)]; exact ⟨rfl, rfl⟩
  · rw [g2 (e5 hb hw hj hs)]; exact ⟨rfl, rfl⟩
def Sx.errE (x : Sx) : Int := if x.snd = true then 0 else 2
def Sx.openR (x : Sx) : Sx := if x.snd = true then x.openV else Sx.zero
def Sx.flV1 (x : Sx) : Sx := x.flV x.ms x.us
def Sx.flR (x : Sx) : Sx := if x.snd = true then x.flV1 else Sx.zero
theorem sOpen_ok (x : Sx) (hx : x.ok) : Fn Tryz.prog 21 [fzX x] [] (sxeT x.openR x.errE) [] := by
  have h1 := stxSound_ok x hx
  have h4 := xown_ok x hx
  have h5 := opened_ok x hx
  have g1 : x.snd = false → sxeT x.openR x.errE = sxeT Sx.zero 2 := fun h => by unfold Sx.openR Sx.errE; rw [h]; rfl
  have g2 : x.snd = true → sxeT x.openR x.errE = sxeT x.openV 0 := fun h => by unfold Sx.openR Sx.errE; rw [if_pos h, if_pos h]
  generalize sxeT x.openR x.errE = T at *
  generalize x.snd = b1 at *
  generalize x.openV = y at *
  obtain ⟨k, t, n, l, xs, a, m, u⟩ := x
  obtain ⟨k1, t1, n1, l1, ys, a1, m1, u1⟩ := y
  unfold fzX at *
  simp only [Sx.row, Sx.list, List.map_cons, List.map_nil] at *
  refine stxO_Open_fc _ _ _ _ _ _ _ _ ?_
  unfold stxO_Open_H
  refine ⟨_, h1, ?_⟩
  rw [not_t, not_f]
  refine ⟨fun hb => ?_, fun hb => ⟨_, _, _, _, _, _, _, _, h4, _, _, _, _, _, _, _, _, h5, ?_⟩⟩
  · rw [g1 hb]; exact ⟨rfl, trivial, rfl⟩
  · rw [g2 hb]; exact ⟨rfl, trivial, rfl⟩
theorem flat_one (x : Sx) (hx : x.ok) : Fn Tryz.prog 67 [fzO x] [obX x.list] (fzO x.flV1) [obX x.flV1.list] := by
  have := flat_ok x x.ms x.us hx (ok_ms hx).1 (ok_ms hx).2
  unfold Sx.flV1
  obtain ⟨k, t, n, l, xs, a, m, u⟩ := x
  exact this
theorem sFlat_ok (x : Sx) (hx : x.ok) : Fn Tryz.prog 22 [fzX x] [] (sxeT x.flR x.errE) [] := by
  have h1 := stxSound_ok x hx
  have h4 := xown_ok x hx
  have h5 := flat_one x hx
  have g1 : x.snd = false → sxeT x.flR x.errE = sxeT Sx.zero 2 := fun h => by unfold Sx.flR Sx.errE; rw [h]; rfl
  have g2 : x.snd = true → sxeT x.flR x.errE = sxeT x.flV1 0 := fun h => by unfold Sx.flR Sx.errE; rw [if_pos h, if_pos h]
  generalize sxeT x.flR x.errE = T at *
  generalize x.snd = b1 at *
  generalize x.flV1 = y at *
  obtain ⟨k, t, n, l, xs, a, m, u⟩ := x
  obtain ⟨k1, t1, n1, l1, ys, a1, m1, u1⟩ := y
  unfold fzX at *
  simp only [Sx.row, Sx.list, List.map_cons, List.map_nil] at *
  refine stxO_Flat_fc _ _ _ _ _ _ _ _ ?_
  unfold stxO_Flat_H
  refine ⟨_, h1, ?_⟩
  rw [not_t, not_f]
  refine ⟨fun hb => ?_, fun hb => ⟨_, _, _, _, _, _, _, _, h4, _, _, _, _, _, _, _, _, h5, ?_⟩⟩
  · rw [g1 hb]; exact ⟨rfl, trivial, rfl⟩
  · rw [g2 hb]; exact ⟨rfl, trivial, rfl⟩
mutual
def Sx.lean : Sx → Prop
  | .mk k _ _ _ xs _ _ _ => ((k = 1 ∨ k = 2 ∨ k = 3) ∨ xs = []) ∧ Sx.leans xs
def Sx.leans : List Sx → Prop
  | [] => True
  | x :: xs => x.lean ∧ Sx.leans xs
end
mutual
theorem flatS_eq : ∀ (x : Sx) (M S : List Int), x.lean → x.flatS M S = x.flV (joM M S x.ms x.us) (joS M S x.ms x.us)
  | .mk k t n l xs a m u, M, S, h => by
    unfold Sx.lean at h
    have := flatL_eq xs (joM M S m u) (joS M S m u) h.2
    unfold Sx.flatS Sx.flV
    simp only [Sx.ms, Sx.us]
    rw [this]
    rcases h.1 with hk | he
    · rw [if_pos hk]
    · subst he; simp only [Sx.flJ, Sx.flO, ite_self]
theorem flatL_eq : ∀ (xs : List Sx) (M S : List Int), Sx.leans xs → Sx.flatL xs M S = Sx.flJ xs M S
  | [], _, _, _ => by simp only [Sx.flatL, Sx.flJ]
  | x :: xs, M, S, h => by
    unfold Sx.leans at h
    simp only [Sx.flatL, Sx.flJ]
    rw [flatS_eq x M S h.1, flatL_eq xs M S h.2]
end
theorem plB_list {t : ByteArray} {n : Bool} {l : List Int} {dn : Nat} {a b : Bool} (h : plB t n l dn a b false = true) : dn = 0 := by
  unfold plB at h
  simp only [Bool.and_eq_true, Bool.false_or, decide_eq_true_eq] at h
  exact h.2.2
theorem leafB_list {k : Int} {t : ByteArray} {n : Bool} {l : List Int} {dn : Nat} (h : leafB k t n l dn = true) : dn = 0 := by
  unfold leafB at h
  split at h
  · exact plB_list (Bool.and_eq_true_iff.1 h).2
  split at h
  · exact plB_list (Bool.and_eq_true_iff.1 h).2
  split at h
  · exact plB_list (Bool.and_eq_true_iff.1 h).2
  split at h
  · exact plB_list (Bool.and_eq_true_iff.1 h).2
  split at h
  · exact plB_list h
  split at h
  · exact plB_list h
  · cases h
mutual
theorem lean_meas : ∀ (x : Sx) (dp room : Int), 0 < x.dt.meas dp room → x.lean
  | .mk k t n l xs a m u, dp, room, h => by
    unfold Sx.dt Dt.meas at h
    unfold Sx.lean
    split at h
    · omega
    split at h
    · rename_i hk
      split at h
      · have := leans_meas xs (dp + 1) room 1 (by omega) h
        exact ⟨.inl (by omega), this⟩
      · omega
    · split at h
      · rename_i hl
        have h0 := leafB_list hl
        rw [dts_len] at h0
        have : xs = [] := List.eq_nil_of_length_eq_zero h0
        subst this
        exact ⟨.inr rfl, by unfold Sx.leans; trivial⟩
      · omega
theorem leans_meas : ∀ (xs : List Sx) (dp room n : Int), 0 < n → 0 < Dt.measL (Sx.dts xs) dp room n → Sx.leans xs
  | [], _, _, _, _, _ => by unfold Sx.leans; trivial
  | x :: xs, dp, room, n, h0, h => by
    unfold Sx.dts Dt.measL at h
    unfold Sx.leans
    split at h
    · omega
    · rename_i hm
      have hp : 0 < x.dt.meas dp (room - n) := by rcases meas_le x.dt dp (room - n) with h | h <;> omega
      exact ⟨lean_meas x dp (room - n) hp, leans_meas xs dp room _ (by omega) h⟩
end
theorem snd_lean {x : Sx} (h : x.snd = true) : x.lean := by
  unfold Sx.snd at h
  simp only [Bool.and_eq_true] at h
  have h2 := h.2.1
  unfold Dt.snd at h2
  exact lean_meas x 1 8192 (by simpa using h2)
theorem jnE_nil {m u : List Int} (h : jnE [] [] m u = 0) : joM [] [] m u = m ∧ joS [] [] m u = u := by
  unfold joM joS
  rw [if_pos h, if_pos h]
  unfold jnM jnS
  have : ¬ cnP [] [] m u := by unfold cnP; simp
  rw [if_neg this, if_neg this]
  exact ⟨rfl, rfl⟩
theorem snd_jnd {x : Sx} (h : x.snd = true) : x.jnd [] [] = true := by
  unfold Sx.snd at h
  simp only [Bool.and_eq_true] at h
  exact h.2.2.2
theorem jnd_E {x : Sx} {M S : List Int} (h : x.jnd M S = true) : jnE M S x.ms x.us = 0 := by
  obtain ⟨k, t, n, l, xs, a, m, u⟩ := x
  unfold Sx.jnd at h
  simp only [Bool.and_eq_true, decide_eq_true_eq] at h
  exact h.1
theorem flat_snd {x : Sx} (h : x.snd = true) : x.flatS [] [] = x.flV1 := by
  have hj := jnE_nil (jnd_E (snd_jnd h))
  rw [flatS_eq x [] [] (snd_lean h), hj.1, hj.2]
  rfl
theorem rFlat_ok (x : Sx) (hx : x.ok) : Fn Tryz.prog 24 [fzX x] [] (sxeT x.flR x.errE) [] := by
  have h1 := rSound9_ok x hx
  have h4 := rflat_ok x [] [] hx all64_nil all64_nil
  have h5 : x.snd = true → x.flatR [] [] = x.flV1 := fun h => by
    unfold Sx.flatR
    rw [if_pos (snd_jnd h), flat_snd h]
  have g1 : x.snd = false → sxeT x.flR x.errE = sxeT Sx.zero 2 := fun h => by unfold Sx.flR Sx.errE; rw [h]; rfl
  have g2 : x.snd = true → sxeT x.flR x.errE = sxeT x.flV1 0 := fun h => by unfold Sx.flR Sx.errE; rw [if_pos h, if_pos h]
  generalize sxeT x.flR x.errE = T at *
  generalize x.snd = b1 at *
  generalize x.flatR [] [] = z at *
  generalize x.flV1 = y at *
  generalize x.jnd [] [] = b2 at *
  obtain ⟨k, t, n, l, xs, a, m, u⟩ := x
  obtain ⟨k1, t1, n1, l1, ys, a1, m1, u1⟩ := z
  unfold fzX at *
  simp only [Sx.row, Sx.list, List.map_cons, List.map_nil] at h1 h4 ⊢
  refine ref09_Flat_fn _ _ _ _ _ _ _ _ ?_
  unfold ref09_Flat_H
  refine ⟨_, h1, ?_⟩
  rw [not_t, not_f]
  refine ⟨fun hb => ?_, fun hb => ⟨_, _, _, _, _, _, _, _, _, h4, ?_⟩⟩
  · rw [g1 hb]; exact ⟨rfl, rfl⟩
  · rw [g2 hb, ← h5 hb]; exact ⟨rfl, rfl⟩
theorem rOpen_loop (k : Int) (t : ByteArray) (n : Bool) (l : List Int) (a : Int) (m u : List Int) (hm : All64 m) (hu : All64 u) (xs : List Sx) (hl : xs.length ≤ 1048576) (hok : Sx.oks xs)
    (R : TV → List Ob → Prop) (hR : R (fzX (.mk k t n l (xs.map (jn1 m u)) a [] [])) []) :
    ∀ (d j : Nat), j + d = xs.length → ref09_Open_L0 R k t n (ints .u32 l) (Sx.rows xs) a (ints .i64 m) (ints .i64 u) j (Sx.rows ((xs.take j).map (jn1 m u)))
  | 0, j, hj => by
    refine ref09_Open_l0 ?_
    unfold ref09_Open_R0
    rw [srows_len, dec_t, dec_f, List.take_of_length_le (by omega)]
    exact ⟨fun h => by omega, fun _ => hR⟩
  | d + 1, j, hj => by
    have hj1 : j < xs.length := by omega
    have hr := srow_at (List.getElem?_eq_getElem hj1)
    have hyo := soks_mem hok xs[j] (List.getElem_mem _)
    have ih := rOpen_loop k t n l a m u hm hu xs hl hok R hR d (j + 1) (by omega)
    have ht : xs.take (j + 1) = xs.take j ++ [xs[j]] := List.take_succ_eq_append_getElem hj1
    rw [ht, List.map_append, srows_app] at ih
    have hlen : (Sx.rows ((xs.take j).map (jn1 m u))).length = j := by rw [srows_len, List.length_map, List.length_take]; omega
    have h2 := ok_ms hyo
    have h3 := rJoin_ok m u (xs[j]).ms (xs[j]).us hm hu h2.1 h2.2
    generalize xs[j] = y at *
    obtain ⟨k', t', n', l', ys, a', m', u'⟩ := y
    simp only [List.map_cons, List.map_nil, jn1, Sx.withW, Sx.ms, Sx.us, Sx.row, Sx.rows] at h3 hr ih
    have e : IntKind.wrap .i64 ((j : Int) + 1) = ((j + 1 : Nat) : Int) := w64 (by omega) (by omega)
    refine ref09_Open_l0 ?_
    unfold ref09_Open_R0
    rw [srows_len, dec_t, dec_f, e]
    refine ⟨fun _ => ⟨by omega, _, _, _, _, _, _, _, _, hr, _, _, _, h3, ?_, ih⟩, fun h => by omega⟩
    rw [hlen, List.length_singleton]
    omega
theorem rOpen_ok (x : Sx) (hx : x.ok) : Fn Tryz.prog 25 [fzX x] [] (fzX x.openV) [] := by
  obtain ⟨k, t, n, l, xs, a, m, u⟩ := x
  unfold Sx.ok at hx
  obtain ⟨_, _, _, _, hxl, hxs, _, hm, hu⟩ := hx
  by_cases hk : k = 1 ∨ k = 2 ∨ k = 3
  · rw [openV_t hk]
    have := rOpen_loop k t n l a m u hm hu xs hxl hxs (fun r' h' => r' = fzX (.mk k t n l (xs.map (jn1 m u)) a [] []) ∧ h' = []) ⟨rfl, rfl⟩ xs.length 0 (by omega)
    refine ref09_Open_fn _ _ _ _ _ _ _ _ ?_
    unfold ref09_Open_H
    rw [dec_t, dec_f, dec_t, dec_f]
    exact ⟨fun h => by omega, fun _ => ⟨fun h => by omega, fun _ => this⟩⟩
  · rw [openV_f hk]
    refine ref09_Open_fn _ _ _ _ _ _ _ _ ?_
    unfold ref09_Open_H
    rw [dec_t, dec_f, dec_t, dec_f]
    exact ⟨fun h => ⟨rfl, rfl⟩, fun _ => ⟨fun h => ⟨rfl, rfl⟩, fun _ => by omega⟩⟩
end Go.Proofs.YtljpbicmlcjpcaaGreatDoor.Ev
end
section
set_option linter.unusedVariables false
set_option maxRecDepth 100000
namespace Go.Proofs.YtljpbicmlcjpcaaGreatDoor.Ev
open Go
def law10_StxPushes_lv : List Nat → Keep := lvOf []
def law10_StxPushes_H (R : TV → List Ob → Prop) (x0 : Int) (x1 : ByteArray) (x2 : Bool) (x3 : List (List FV)) (x4 : List (List FV)) (x5 : Int) (x6 : List (List FV)) (x7 : List (List FV)) (w0 : List (List FV)) (w1 : List (List FV)) : Prop :=
  (∃ b28 : Bool, ((Fn Tryz.prog 15 [] [] (TV.one (AV.fz (FV.bool b28))) []) ∧ ((((Bool.not b28) = true) → (∃ b29 : Bool, ((Fn Tryz.prog 15 [] [] (TV.one (AV.fz (FV.bool b29))) []) ∧ (R (TV.one (AV.fz (FV.bool b29))) [])))) ∧ (((Bool.not b28) = false) → (∃ b30 : Bool, ((Fn Tryz.prog 16 [(TV.agg [(AV.fz (FV.int .i64 x0)), (AV.fz (FV.str x1)), (AV.fz (FV.bool x2)), (AV.fz (FV.sl 1 x3)), (AV.fz (FV.sl 8 x4)), (AV.fz (FV.int .i64 x5)), (AV.fz (FV.sl 1 x6)), (AV.fz (FV.sl 1 x7))]), (TV.one (AV.fz (FV.int .i64 1)))] [] (TV.one (AV.fz (FV.bool b30))) []) ∧ ((((Bool.not b30) = true) → (∃ b31 : Bool, ((Fn Tryz.prog 15 [] [] (TV.one (AV.fz (FV.bool b31))) []) ∧ (R (TV.one (AV.fz (FV.bool b31))) [])))) ∧ (((Bool.not b30) = false) → ((((decide ((600 : Int) < (((List.length w0) : Nat) : Int))) = true) → (∃ b32 : Bool, ((Fn Tryz.prog 15 [] [] (TV.one (AV.fz (FV.bool b32))) []) ∧ (R (TV.one (AV.fz (FV.bool b32))) [])))) ∧ (((decide ((600 : Int) < (((List.length w0) : Nat) : Int))) = false) → ((((decide ((600 : Int) < (((List.length w1) : Nat) : Int))) = true) → (∃ b33 : Bool, ((Fn Tryz.prog 15 [] [] (TV.one (AV.fz (FV.bool b33))) []) ∧ (R (TV.one (AV.fz (FV.bool b33))) [])))) ∧ (((decide ((600 : Int) < (((List.length w1) : Nat) : Int))) = false) → (∃ n38 : Int, (∃ s15 : ByteArray, (∃ b34 : Bool, (∃ es60 : List (List FV), (∃ es61 : List (List FV), (∃ n39 : Int, (∃ es62 : List (List FV), (∃ es63 : List (List FV), ((Fn Tryz.prog 18 [(TV.agg [(AV.fz (FV.int .i64 x0)), (AV.fz (FV.str x1)), (AV.fz (FV.bool x2)), (AV.fz (FV.sl 1 x3)), (AV.fz (FV.sl 8 x4)), (AV.fz (FV.int .i64 x5)), (AV.fz (FV.sl 1 x6)), (AV.fz (FV.sl 1 x7))])] [] (TV.agg [(AV.fz (FV.int .i64 n38)), (AV.fz (FV.str s15)), (AV.fz (FV.bool b34)), (AV.fz (FV.sl 1 es60)), (AV.fz (FV.sl 8 es61)), (AV.fz (FV.int .i64 n39)), (AV.fz (FV.sl 1 es62)), (AV.fz (FV.sl 1 es63))]) []) ∧ (∃ n40 : Int, (∃ s16 : ByteArray, (∃ b35 : Bool, (∃ es64 : List (List FV), (∃ es65 : List (List FV), (∃ n41 : Int, (∃ es66 : List (List FV), (∃ es67 : List (List FV), (∃ n42 : Int, ((Fn Tryz.prog 17 [(TV.agg [(AV.fz (FV.int .i64 n38)), (AV.fz (FV.str s15)), (AV.fz (FV.bool b34)), (AV.fz (FV.sl 1 es60)), (AV.fz (FV.sl 8 es61)), (AV.fz (FV.int .i64 n39)), (AV.fz (FV.sl 1 es62)), (AV.fz (FV.sl 1 es63))]), (TV.agg [(AV.fz (FV.sl 1 w0)), (AV.fz (FV.sl 1 w1))])] [] (TV.tup [(true, [(AV.fz (FV.int .i64 n40)), (AV.fz (FV.str s16)), (AV.fz (FV.bool b35)), (AV.fz (FV.sl 1 es64)), (AV.fz (FV.sl 8 es65)), (AV.fz (FV.int .i64 n41)), (AV.fz (FV.sl 1 es66)), (AV.fz (FV.sl 1 es67))]), (false, [(AV.fz (FV.int .i64 n42))])]) []) ∧ (∃ n43 : Int, (∃ s17 : ByteArray, (∃ b36 : Bool, (∃ es68 : List (List FV), (∃ es69 : List (List FV), (∃ n44 : Int, (∃ es70 : List (List FV), (∃ es71 : List (List FV), (∃ n45 : Int, ((Fn Tryz.prog 19 [(TV.agg [(AV.fz (FV.int .i64 x0)), (AV.fz (FV.str x1)), (AV.fz (FV.bool x2)), (AV.fz (FV.sl 1 x3)), (AV.fz (FV.sl 8 x4)), (AV.fz (FV.int .i64 x5)), (AV.fz (FV.sl 1 x6)), (AV.fz (FV.sl 1 x7))]), (TV.one (AV.fz (FV.sl 1 w0))), (TV.one (AV.fz (FV.sl 1 w1)))] [] (TV.tup [(true, [(AV.fz (FV.int .i64 n43)), (AV.fz (FV.str s17)), (AV.fz (FV.bool b36)), (AV.fz (FV.sl 1 es68)), (AV.fz (FV.sl 8 es69)), (AV.fz (FV.int .i64 n44)), (AV.fz (FV.sl 1 es70)), (AV.fz (FV.sl 1 es71))]), (false, [(AV.fz (FV.int .i64 n45))])]) []) ∧ ((((n42 != n45) = true) → (R (TV.one (AV.fz (FV.bool false))) [])) ∧ (((n42 != n45) = false) → ((((n42 == 0) = true) → (∃ b37 : Bool, ((Fn Tryz.prog 20 [(TV.agg [(AV.fz (FV.int .i64 n40)), (AV.fz (FV.str s16)), (AV.fz (FV.bool b35)), (AV.fz (FV.sl 1 es64)), (AV.fz (FV.sl 8 es65)), (AV.fz (FV.int .i64 n41)), (AV.fz (FV.sl 1 es66)), (AV.fz (FV.sl 1 es67))]), (TV.agg [(AV.fz (FV.int .i64 n43)), (AV.fz (FV.str s17)), (AV.fz (FV.bool b36)), (AV.fz (FV.sl 1 es68)), (AV.fz (FV.sl 8 es69)), (AV.fz (FV.int .i64 n44)), (AV.fz (FV.sl 1 es70)), (AV.fz (FV.sl 1 es71))])] [] (TV.one (AV.fz (FV.bool b37))) []) ∧ ((((Bool.not b37) = true) → (R (TV.one (AV.fz (FV.bool false))) [])) ∧ (((Bool.not b37) = false) → (∃ n46 : Int, (∃ s18 : ByteArray, (∃ b38 : Bool, (∃ es72 : List (List FV), (∃ es73 : List (List FV), (∃ n47 : Int, (∃ es74 : List (List FV), (∃ es75 : List (List FV), ((Fn Tryz.prog 18 [(TV.agg [(AV.fz (FV.int .i64 x0)), (AV.fz (FV.str x1)), (AV.fz (FV.bool x2)), (AV.fz (FV.sl 1 x3)), (AV.fz (FV.sl 8 x4)), (AV.fz (FV.int .i64 x5)), (AV.fz (FV.sl 1 x6)), (AV.fz (FV.sl 1 x7))])] [] (TV.agg [(AV.fz (FV.int .i64 n46)), (AV.fz (FV.str s18)), (AV.fz (FV.bool b38)), (AV.fz (FV.sl 1 es72)), (AV.fz (FV.sl 8 es73)), (AV.fz (FV.int .i64 n47)), (AV.fz (FV.sl 1 es74)), (AV.fz (FV.sl 1 es75))]) []) ∧ (∃ n48 : Int, (∃ s19 : ByteArray, (∃ b39 : Bool, (∃ es76 : List (List FV), (∃ es77 : List (List FV), (∃ n49 : Int, (∃ es78 : List (List FV), (∃ es79 : List (List FV), (∃ n50 : Int, ((Fn Tryz.prog 21 [(TV.agg [(AV.fz (FV.int .i64 n46)), (AV.fz (FV.str s18)), (AV.fz (FV.bool b38)), (AV.fz (FV.sl 1 es72)), (AV.fz (FV.sl 8 es73)), (AV.fz (FV.int .i64 n47)), (AV.fz (FV.sl 1 es74)), (AV.fz (FV.sl 1 es75))])] [] (TV.tup [(true, [(AV.fz (FV.int .i64 n48)), (AV.fz (FV.str s19)), (AV.fz (FV.bool b39)), (AV.fz (FV.sl 1 es76)), (AV.fz (FV.sl 8 es77)), (AV.fz (FV.int .i64 n49)), (AV.fz (FV.sl 1 es78)), (AV.fz (FV.sl 1 es79))]), (false, [(AV.fz (FV.int .i64 n50))])]) []) ∧ (∃ n51 : Int, (∃ s20 : ByteArray, (∃ b40 : Bool, (∃ es80 : List (List FV), (∃ es81 : List (List FV), (∃ n52 : Int, (∃ es82 : List (List FV), (∃ es83 : List (List FV), ((Fn Tryz.prog 18 [(TV.agg [(AV.fz (FV.int .i64 x0)), (AV.fz (FV.str x1)), (AV.fz (FV.bool x2)), (AV.fz (FV.sl 1 x3)), (AV.fz (FV.sl 8 x4)), (AV.fz (FV.int .i64 x5)), (AV.fz (FV.sl 1 x6)), (AV.fz (FV.sl 1 x7))])] [] (TV.agg [(AV.fz (FV.int .i64 n51)), (AV.fz (FV.str s20)), (AV.fz (FV.bool b40)), (AV.fz (FV.sl 1 es80)), (AV.fz (FV.sl 8 es81)), (AV.fz (FV.int .i64 n52)), (AV.fz (FV.sl 1 es82)), (AV.fz (FV.sl 1 es83))]) []) ∧ (∃ n53 : Int, (∃ s21 : ByteArray, (∃ b41 : Bool, (∃ es84 : List (List FV), (∃ es85 : List (List FV), (∃ n54 : Int, (∃ es86 : List (List FV), (∃ es87 : List (List FV), (∃ n55 : Int, ((Fn Tryz.prog 22 [(TV.agg [(AV.fz (FV.int .i64 n51)), (AV.fz (FV.str s20)), (AV.fz (FV.bool b40)), (AV.fz (FV.sl 1 es80)), (AV.fz (FV.sl 8 es81)), (AV.fz (FV.int .i64 n52)), (AV.fz (FV.sl 1 es82)), (AV.fz (FV.sl 1 es83))])] [] (TV.tup [(true, [(AV.fz (FV.int .i64 n53)), (AV.fz (FV.str s21)), (AV.fz (FV.bool b41)), (AV.fz (FV.sl 1 es84)), (AV.fz (FV.sl 8 es85)), (AV.fz (FV.int .i64 n54)), (AV.fz (FV.sl 1 es86)), (AV.fz (FV.sl 1 es87))]), (false, [(AV.fz (FV.int .i64 n55))])]) []) ∧ (∃ b42 : Bool, ((Fn Tryz.prog 23 [(TV.agg [(AV.fz (FV.int .i64 x0)), (AV.fz (FV.str x1)), (AV.fz (FV.bool x2)), (AV.fz (FV.sl 1 x3)), (AV.fz (FV.sl 8 x4)), (AV.fz (FV.int .i64 x5)), (AV.fz (FV.sl 1 x6)), (AV.fz (FV.sl 1 x7))])] [] (TV.one (AV.fz (FV.bool b42))) []) ∧ ((((Bool.not b42) = true) → ((((n50 == 2) = true) → (R (TV.one (AV.fz (FV.bool (n55 == 2)))) [])) ∧ (((n50 == 2) = false) → (R (TV.one (AV.fz (FV.bool false))) [])))) ∧ (((Bool.not b42) = false) → (∃ n56 : Int, (∃ s22 : ByteArray, (∃ b43 : Bool, (∃ es88 : List (List FV), (∃ es89 : List (List FV), (∃ n57 : Int, (∃ es90 : List (List FV), (∃ es91 : List (List FV), (∃ n58 : Int, ((Fn Tryz.prog 24 [(TV.agg [(AV.fz (FV.int .i64 x0)), (AV.fz (FV.str x1)), (AV.fz (FV.bool x2)), (AV.fz (FV.sl 1 x3)), (AV.fz (FV.sl 8 x4)), (AV.fz (FV.int .i64 x5)), (AV.fz (FV.sl 1 x6)), (AV.fz (FV.sl 1 x7))])] [] (TV.tup [(true, [(AV.fz (FV.int .i64 n56)), (AV.fz (FV.str s22)), (AV.fz (FV.bool b43)), (AV.fz (FV.sl 1 es88)), (AV.fz (FV.sl 8 es89)), (AV.fz (FV.int .i64 n57)), (AV.fz (FV.sl 1 es90)), (AV.fz (FV.sl 1 es91))]), (false, [(AV.fz (FV.int .i64 n58))])]) []) ∧ ((((n50 == 0) = true) → ((((n55 == 0) = true) → (∃ n59 : Int, (∃ s23 : ByteArray, (∃ b44 : Bool, (∃ es92 : List (List FV), (∃ es93 : List (List FV), (∃ n60 : Int, (∃ es94 : List (List FV), (∃ es95 : List (List FV), ((Fn Tryz.prog 25 [(TV.agg [(AV.fz (FV.int .i64 x0)), (AV.fz (FV.str x1)), (AV.fz (FV.bool x2)), (AV.fz (FV.sl 1 x3)), (AV.fz (FV.sl 8 x4)), (AV.fz (FV.int .i64 x5)), (AV.fz (FV.sl 1 x6)), (AV.fz (FV.sl 1 x7))])] [] (TV.agg [(AV.fz (FV.int .i64 n59)), (AV.fz (FV.str s23)), (AV.fz (FV.bool b44)), (AV.fz (FV.sl 1 es92)), (AV.fz (FV.sl 8 es93)), (AV.fz (FV.int .i64 n60)), (AV.fz (FV.sl 1 es94)), (AV.fz (FV.sl 1 es95))]) []) ∧ (∃ b45 : Bool, ((Fn Tryz.prog 20 [(TV.agg [(AV.fz (FV.int .i64 n48)), (AV.fz (FV.str s19)), (AV.fz (FV.bool b39)), (AV.fz (FV.sl 1 es76)), (AV.fz (FV.sl 8 es77)), (AV.fz (FV.int .i64 n49)), (AV.fz (FV.sl 1 es78)), (AV.fz (FV.sl 1 es79))]), (TV.agg [(AV.fz (FV.int .i64 n59)), (AV.fz (FV.str s23)), (AV.fz (FV.bool b44)), (AV.fz (FV.sl 1 es92)), (AV.fz (FV.sl 8 es93)), (AV.fz (FV.int .i64 n60)), (AV.fz (FV.sl 1 es94)), (AV.fz (FV.sl 1 es95))])] [] (TV.one (AV.fz (FV.bool b45))) []) ∧ (((b45 = true) → (∃ b46 : Bool, ((Fn Tryz.prog 20 [(TV.agg [(AV.fz (FV.int .i64 n53)), (AV.fz (FV.str s21)), (AV.fz (FV.bool b41)), (AV.fz (FV.sl 1 es84)), (AV.fz (FV.sl 8 es85)), (AV.fz (FV.int .i64 n54)), (AV.fz (FV.sl 1 es86)), (AV.fz (FV.sl 1 es87))]), (TV.agg [(AV.fz (FV.int .i64 n56)), (AV.fz (FV.str s22)), (AV.fz (FV.bool b43)), (AV.fz (FV.sl 1 es88)), (AV.fz (FV.sl 8 es89)), (AV.fz (FV.int .i64 n57)), (AV.fz (FV.sl 1 es90)), (AV.fz (FV.sl 1 es91))])] [] (TV.one (AV.fz (FV.bool b46))) []) ∧ (R (TV.one (AV.fz (FV.bool b46))) [])))) ∧ ((b45 = false) → (R (TV.one (AV.fz (FV.bool false))) []))))))))))))))) ∧ (((n55 == 0) = false) → (R (TV.one (AV.fz (FV.bool false))) [])))) ∧ (((n50 == 0) = false) → (R (TV.one (AV.fz (FV.bool false))) [])))))))))))))))))))))))))))))))))))))))))))))))))))))))))))) ∧ (((n42 == 0) = false) → (∃ n61 : Int, (∃ s24 : ByteArray, (∃ b47 : Bool, (∃ es96 : List (List FV), (∃ es97 : List (List FV), (∃ n62 : Int, (∃ es98 : List (List FV), (∃ es99 : List (List FV), ((Fn Tryz.prog 18 [(TV.agg [(AV.fz (FV.int .i64 x0)), (AV.fz (FV.str x1)), (AV.fz (FV.bool x2)), (AV.fz (FV.sl 1 x3)), (AV.fz (FV.sl 8 x4)), (AV.fz (FV.int .i64 x5)), (AV.fz (FV.sl 1 x6)), (AV.fz (FV.sl 1 x7))])] [] (TV.agg [(AV.fz (FV.int .i64 n61)), (AV.fz (FV.str s24)), (AV.fz (FV.bool b47)), (AV.fz (FV.sl 1 es96)), (AV.fz (FV.sl 8 es97)), (AV.fz (FV.int .i64 n62)), (AV.fz (FV.sl 1 es98)), (AV.fz (FV.sl 1 es99))]) []) ∧ (∃ n63 : Int, (∃ s25 : ByteArray, (∃ b48 : Bool, (∃ es100 : List (List FV), (∃ es101 : List (List FV), (∃ n64 : Int, (∃ es102 : List (List FV), (∃ es103 : List (List FV), (∃ n65 : Int, ((Fn Tryz.prog 21 [(TV.agg [(AV.fz (FV.int .i64 n61)), (AV.fz (FV.str s24)), (AV.fz (FV.bool b47)), (AV.fz (FV.sl 1 es96)), (AV.fz (FV.sl 8 es97)), (AV.fz (FV.int .i64 n62)), (AV.fz (FV.sl 1 es98)), (AV.fz (FV.sl 1 es99))])] [] (TV.tup [(true, [(AV.fz (FV.int .i64 n63)), (AV.fz (FV.str s25)), (AV.fz (FV.bool b48)), (AV.fz (FV.sl 1 es100)), (AV.fz (FV.sl 8 es101)), (AV.fz (FV.int .i64 n64)), (AV.fz (FV.sl 1 es102)), (AV.fz (FV.sl 1 es103))]), (false, [(AV.fz (FV.int .i64 n65))])]) []) ∧ (∃ n66 : Int, (∃ s26 : ByteArray, (∃ b49 : Bool, (∃ es104 : List (List FV), (∃ es105 : List (List FV), (∃ n67 : Int, (∃ es106 : List (List FV), (∃ es107 : List (List FV), ((Fn Tryz.prog 18 [(TV.agg [(AV.fz (FV.int .i64 x0)), (AV.fz (FV.str x1)), (AV.fz (FV.bool x2)), (AV.fz (FV.sl 1 x3)), (AV.fz (FV.sl 8 x4)), (AV.fz (FV.int .i64 x5)), (AV.fz (FV.sl 1 x6)), (AV.fz (FV.sl 1 x7))])] [] (TV.agg [(AV.fz (FV.int .i64 n66)), (AV.fz (FV.str s26)), (AV.fz (FV.bool b49)), (AV.fz (FV.sl 1 es104)), (AV.fz (FV.sl 8 es105)), (AV.fz (FV.int .i64 n67)), (AV.fz (FV.sl 1 es106)), (AV.fz (FV.sl 1 es107))]) []) ∧ (∃ n68 : Int, (∃ s27 : ByteArray, (∃ b50 : Bool, (∃ es108 : List (List FV), (∃ es109 : List (List FV), (∃ n69 : Int, (∃ es110 : List (List FV), (∃ es111 : List (List FV), (∃ n70 : Int, ((Fn Tryz.prog 22 [(TV.agg [(AV.fz (FV.int .i64 n66)), (AV.fz (FV.str s26)), (AV.fz (FV.bool b49)), (AV.fz (FV.sl 1 es104)), (AV.fz (FV.sl 8 es105)), (AV.fz (FV.int .i64 n67)), (AV.fz (FV.sl 1 es106)), (AV.fz (FV.sl 1 es107))])] [] (TV.tup [(true, [(AV.fz (FV.int .i64 n68)), (AV.fz (FV.str s27)), (AV.fz (FV.bool b50)), (AV.fz (FV.sl 1 es108)), (AV.fz (FV.sl 8 es109)), (AV.fz (FV.int .i64 n69)), (AV.fz (FV.sl 1 es110)), (AV.fz (FV.sl 1 es111))]), (false, [(AV.fz (FV.int .i64 n70))])]) []) ∧ (∃ b51 : Bool, ((Fn Tryz.prog 23 [(TV.agg [(AV.fz (FV.int .i64 x0)), (AV.fz (FV.str x1)), (AV.fz (FV.bool x2)), (AV.fz (FV.sl 1 x3)), (AV.fz (FV.sl 8 x4)), (AV.fz (FV.int .i64 x5)), (AV.fz (FV.sl 1 x6)), (AV.fz (FV.sl 1 x7))])] [] (TV.one (AV.fz (FV.bool b51))) []) ∧ ((((Bool.not b51) = true) → ((((n65 == 2) = true) → (R (TV.one (AV.fz (FV.bool (n70 == 2)))) [])) ∧ (((n65 == 2) = false) → (R (TV.one (AV.fz (FV.bool false))) [])))) ∧ (((Bool.not b51) = false) → (∃ n71 : Int, (∃ s28 : ByteArray, (∃ b52 : Bool, (∃ es112 : List (List FV), (∃ es113 : List (List FV), (∃ n72 : Int, (∃ es114 : List (List FV), (∃ es115 : List (List FV), (∃ n73 : Int, ((Fn Tryz.prog 24 [(TV.agg [(AV.fz (FV.int .i64 x0)), (AV.fz (FV.str x1)), (AV.fz (FV.bool x2)), (AV.fz (FV.sl 1 x3)), (AV.fz (FV.sl 8 x4)), (AV.fz (FV.int .i64 x5)), (AV.fz (FV.sl 1 x6)), (AV.fz (FV.sl 1 x7))])] [] (TV.tup [(true, [(AV.fz (FV.int .i64 n71)), (AV.fz (FV.str s28)), (AV.fz (FV.bool b52)), (AV.fz (FV.sl 1 es112)), (AV.fz (FV.sl 8 es113)), (AV.fz (FV.int .i64 n72)), (AV.fz (FV.sl 1 es114)), (AV.fz (FV.sl 1 es115))]), (false, [(AV.fz (FV.int .i64 n73))])]) []) ∧ ((((n65 == 0) = true) → ((((n70 == 0) = true) → (∃ n74 : Int, (∃ s29 : ByteArray, (∃ b53 : Bool, (∃ es116 : List (List FV), (∃ es117 : List (List FV), (∃ n75 : Int, (∃ es118 : List (List FV), (∃ es119 : List (List FV), ((Fn Tryz.prog 25 [(TV.agg [(AV.fz (FV.int .i64 x0)), (AV.fz (FV.str x1)), (AV.fz (FV.bool x2)), (AV.fz (FV.sl 1 x3)), (AV.fz (FV.sl 8 x4)), (AV.fz (FV.int .i64 x5)), (AV.fz (FV.sl 1 x6)), (AV.fz (FV.sl 1 x7))])] [] (TV.agg [(AV.fz (FV.int .i64 n74)), (AV.fz (FV.str s29)), (AV.fz (FV.bool b53)), (AV.fz (FV.sl 1 es116)), (AV.fz (FV.sl 8 es117)), (AV.fz (FV.int .i64 n75)), (AV.fz (FV.sl 1 es118)), (AV.fz (FV.sl 1 es119))]) []) ∧ (∃ b54 : Bool, ((Fn Tryz.prog 20 [(TV.agg [(AV.fz (FV.int .i64 n63)), (AV.fz (FV.str s25)), (AV.fz (FV.bool b48)), (AV.fz (FV.sl 1 es100)), (AV.fz (FV.sl 8 es101)), (AV.fz (FV.int .i64 n64)), (AV.fz (FV.sl 1 es102)), (AV.fz (FV.sl 1 es103))]), (TV.agg [(AV.fz (FV.int .i64 n74)), (AV.fz (FV.str s29)), (AV.fz (FV.bool b53)), (AV.fz (FV.sl 1 es116)), (AV.fz (FV.sl 8 es117)), (AV.fz (FV.int .i64 n75)), (AV.fz (FV.sl 1 es118)), (AV.fz (FV.sl 1 es119))])] [] (TV.one (AV.fz (FV.bool b54))) []) ∧ (((b54 = true) → (∃ b55 : Bool, ((Fn Tryz.prog 20 [(TV.agg [(AV.fz (FV.int .i64 n68)), (AV.fz (FV.str s27)), (AV.fz (FV.bool b50)), (AV.fz (FV.sl 1 es108)), (AV.fz (FV.sl 8 es109)), (AV.fz (FV.int .i64 n69)), (AV.fz (FV.sl 1 es110)), (AV.fz (FV.sl 1 es111))]), (TV.agg [(AV.fz (FV.int .i64 n71)), (AV.fz (FV.str s28)), (AV.fz (FV.bool b52)), (AV.fz (FV.sl 1 es112)), (AV.fz (FV.sl 8 es113)), (AV.fz (FV.int .i64 n72)), (AV.fz (FV.sl 1 es114)), (AV.fz (FV.sl 1 es115))])] [] (TV.one (AV.fz (FV.bool b55))) []) ∧ (R (TV.one (AV.fz (FV.bool b55))) [])))) ∧ ((b54 = false) → (R (TV.one (AV.fz (FV.bool false))) []))))))))))))))) ∧ (((n70 == 0) = false) → (R (TV.one (AV.fz (FV.bool false))) [])))) ∧ (((n65 == 0) = false) → (R (TV.one (AV.fz (FV.bool false))) []))))))))))))))))))))))))))))))))))))))))))))))))))))))))))))))))))))))))))))))))))))))))))))))))))))
theorem law10_StxPushes_fn (x0 : Int) (x1 : ByteArray) (x2 : Bool) (x3 : List (List FV)) (x4 : List (List FV)) (x5 : Int) (x6 : List (List FV)) (x7 : List (List FV)) (w0 : List (List FV)) (w1 : List (List FV)) {r : TV} {h : List Ob} (H : law10_StxPushes_H (fun r' h' => r' = r ∧ h' = h) x0 x1 x2 x3 x4 x5 x6 x7 w0 w1) : Fn Tryz.prog 3 [(TV.agg [(AV.fz (FV.int .i64 x0)), (AV.fz (FV.str x1)), (AV.fz (FV.bool x2)), (AV.fz (FV.sl 1 x3)), (AV.fz (FV.sl 8 x4)), (AV.fz (FV.int .i64 x5)), (AV.fz (FV.sl 1 x6)), (AV.fz (FV.sl 1 x7))]), (TV.agg [(AV.fz (FV.sl 1 w0)), (AV.fz (FV.sl 1 w1))])] [] r h :=
  Fn.by_tr (M := (modeOf [] [])) (lv := law10_StxPushes_lv) (own := none) (F := Tryz.f3) (by kernel_rfl) (by kernel_rfl) (by first | decide | simp) (fun _ _ h => h) (by kernel_rfl) H
end Go.Proofs.YtljpbicmlcjpcaaGreatDoor.Ev
end
section
set_option linter.unusedVariables false
namespace Go.Proofs.YtljpbicmlcjpcaaGreatDoor.Ev
open Go
theorem ty_wrap {fs : List FV} (h : Ty Tryz.prog 30 fs) : ∃ m s, fs = [.sl 1 (ints .i64 m), .sl 1 (ints .i64 s)] ∧ All64 m ∧ All64 s := by
  obtain ⟨parts, rfl, h1, h2⟩ := h.inv_struct Tryz.underlying30
  obtain ⟨a, b, rfl⟩ := two_parts h1
  obtain ⟨m, rfl, hm⟩ := ty_i64s (h2 0 _ a rfl rfl)
  obtain ⟨s, rfl, hs⟩ := ty_i64s (h2 1 _ b rfl rfl)
  exact ⟨m, s, rfl, hm, hs⟩
theorem tyV_wrap {x : TV} (h : TyV Tryz.prog 30 x) : ∃ m s, x = fzW m s ∧ All64 m ∧ All64 s := by
  rcases h with ⟨fs, rfl, h, _⟩ | ⟨f, rfl, h⟩
  · obtain ⟨m, s, rfl, hm, hs⟩ := ty_wrap h
    exact ⟨m, s, rfl, hm, hs⟩
  · obtain ⟨m, s, h, _⟩ := ty_wrap h
    cases h
theorem pushR_ok {x : Sx} (hx : x.ok) {M S : List Int} (hM : All64 M) (hS : All64 S) : (pushR x M S).ok := by
  unfold pushR
  split
  · exact pushV_ok hx hM hS
  · exact zero_ok
theorem openR_ok {x : Sx} (hx : x.ok) : x.openR.ok := by
  unfold Sx.openR
  split
  · exact openV_ok hx
  · exact zero_ok
mutual
theorem flV_ok : ∀ (x : Sx) (M S : List Int), x.ok → All64 M → All64 S → (x.flV M S).ok
  | .mk k t n l xs a m u, M, S, hx, hM, hS => by
    unfold Sx.ok at hx
    obtain ⟨h1, h2, h3, h4, h5, h6, h7, h8, h9⟩ := hx
    have q := flJ_ok xs h6
    unfold Sx.flV Sx.ok
    refine ⟨h1, h2, h3, h4, ?_, ?_, h7, ?_, ?_⟩
    · split
      · rw [flJ_map, List.length_map, List.length_map]; exact h5
      · rw [flO_map, List.length_map]; exact h5
    · split
      · exact q.1 M S hM hS
      · exact q.2
    · split
      · exact hM
      · exact all64_nil
    · split
      · exact hS
      · exact all64_nil
theorem flJ_ok : ∀ (xs : List Sx), Sx.oks xs → (∀ M S, All64 M → All64 S → Sx.oks (Sx.flJ xs M S)) ∧ Sx.oks (Sx.flO xs)
  | [], _ => by simp only [Sx.flJ, Sx.flO, Sx.oks]; exact ⟨fun _ _ _ _ => trivial, trivial⟩
  | x :: xs, h => by
    unfold Sx.oks at h
    have q := flJ_ok xs h.2
    have r := ok_ms h.1
    simp only [Sx.flJ, Sx.flO, Sx.oks]
    exact ⟨fun M S hM hS => ⟨flV_ok x _ _ h.1 (jo_all hM hS r.1 r.2).1 (jo_all hM hS r.1 r.2).2, q.1 M S hM hS⟩, flV_ok x _ _ h.1 r.1 r.2, q.2⟩
end
theorem flR_ok {x : Sx} (hx : x.ok) : x.flR.ok := by
  unfold Sx.flR
  split
  · exact flV_ok x _ _ hx (ok_ms hx).1 (ok_ms hx).2
  · exact zero_ok
set_option maxHeartbeats 1000000 in
theorem law_StxPushes (xs : List TV) (h : TyAll Tryz.prog [28, 30] xs) (hb : bulkA xs ≤ 1048576) : Fn Tryz.prog 3 xs [] (.one (.fz (.bool true))) [] := by
  cases h with
  | cons h1 h =>
  cases h with
  | cons h2 h =>
  cases h
  simp only [bulkA] at hb
  obtain ⟨x, rfl, hx, _⟩ := tyV_Sx h1 (by omega)
  obtain ⟨M, S, rfl, hM, hS⟩ := tyV_wrap h2
  have c1 := light_ok10 x 1 hx (by omega) (by omega)
  have c2 := rOwn_ok x hx
  have c3 := sPush_ok x hx M S hM hS
  have c4 := rPush_ok x hx M S hM hS
  have c5 := sOpen_ok x hx
  have c6 := sFlat_ok x hx
  have c7 := rSound9_ok x hx
  have c8 := rFlat_ok x hx
  have c9 := rOpen_ok x hx
  have d1 := rExact_ok (pushR x M S) (pushR x M S) (pushR_ok hx hM hS)
  have d2 := rExact_ok x.openR x.openV (openR_ok hx)
  have d3 := rExact_ok x.flR x.flR (flR_ok hx)
  rw [exact_self] at d1 d3
  have e1 : x.snd = true → x.errE = 0 := fun h => by unfold Sx.errE; rw [if_pos h]
  have e2 : x.snd = false → x.errE = 2 := fun h => by unfold Sx.errE; rw [h]; rfl
  have e3 : x.snd = true → x.openR.exact x.openV = true := fun h => by unfold Sx.openR; rw [if_pos h, exact_self]
  generalize x.lite 1 = b0 at *
  generalize x.openR.exact x.openV = b4 at *
  generalize pushR x M S = p at *
  generalize pushE x M S = pe at *
  generalize x.openR = o at *
  generalize x.openV = ov at *
  generalize x.flR = f at *
  generalize x.errE = oe at *
  generalize x.snd = b1 at *
  obtain ⟨k, t, n, l, ys, a, m, s⟩ := x
  obtain ⟨pk, pt, pn, pl, px, pa, pm, ps⟩ := p
  obtain ⟨ok, ot, on, ol, ox, oa, om, os⟩ := o
  obtain ⟨vk, vt, vn, vl, vx, va, vm, vs⟩ := ov
  obtain ⟨fk, ft, fn, fl, fx, fa, fm, fs⟩ := f
  unfold fzX at *
  simp only [Sx.row, List.map_cons, List.map_nil] at c1 c2 c3 c4 c5 c6 c7 c8 c9 d1 d2 d3 ⊢
  refine law10_StxPushes_fn _ _ _ _ _ _ _ _ _ _ ?_
  unfold law10_StxPushes_H
  have fin : ∀ (b : Bool), b = true → (fun (r' : TV) (h' : List Ob) => r' = TV.one (.fz (.bool true)) ∧ h' = []) (.one (.fz (.bool b))) [] := fun b h => by rw [h]; exact ⟨rfl, rfl⟩
  refine ⟨_, answers10_ok, fun h => (by cases h), fun _ => ⟨_, c1, ?_⟩⟩
  rw [not_t, not_f]
  refine ⟨fun _ => ⟨_, answers10_ok, rfl, rfl⟩, fun _ => ⟨fun _ => ⟨_, answers10_ok, rfl, rfl⟩, fun _ => ⟨fun _ => ⟨_, answers10_ok, rfl, rfl⟩, fun _ => ⟨_, _, _, _, _, _, _, _, c2, _, _, _, _, _, _, _, _, _, c3, _, _, _, _, _, _, _, _, _, c4, ?_⟩⟩⟩⟩
  rw [bne_t, bne_f]
  refine ⟨fun h => absurd rfl h, fun _ => ?_⟩
  rw [beq_t, beq_f]
  have tl := fun (R : TV → List Ob → Prop) (hR : R (.one (.fz (.bool true))) []) => (show (((Bool.not b1) = true) → ((((oe == 2) = true) → (R (TV.one (.fz (.bool (oe == 2)))) [])) ∧ (((oe == 2) = false) → (R (TV.one (.fz (.bool false))) [])))) by
    rw [not_t]
    intro h
    rw [e2 h]
    exact ⟨fun _ => hR, fun h => (by cases h)⟩)
  have tl := tl (fun r' h' => r' = TV.one (.fz (.bool true)) ∧ h' = []) ⟨rfl, rfl⟩
  refine ⟨fun _ => ⟨_, d1, fun h => (by cases h), fun _ => ⟨_, _, _, _, _, _, _, _, c2, _, _, _, _, _, _, _, _, _, c5, _, _, _, _, _, _, _, _, c2, _, _, _, _, _, _, _, _, _, c6, _, c7, tl, ?_⟩⟩, fun _ => ⟨_, _, _, _, _, _, _, _, c2, _, _, _, _, _, _, _, _, _, c5, _, _, _, _, _, _, _, _, c2, _, _, _, _, _, _, _, _, _, c6, _, c7, tl, ?_⟩⟩
  all_goals
    rw [not_f]
    intro hb
    rw [e1 hb]
    have d2 := d2
    rw [e3 hb] at d2
    have c8 := c8
    rw [e1 hb] at c8
    exact ⟨_, _, _, _, _, _, _, _, _, c8, fun _ => ⟨fun _ => ⟨_, _, _, _, _, _, _, _, c9, _, d2, fun _ => ⟨_, d3, rfl, rfl⟩, fun h => (by cases h)⟩, fun h => (by cases h)⟩, fun h => (by cases h)⟩
end Go.Proofs.YtljpbicmlcjpcaaGreatDoor.Ev
end
section
set_option linter.unusedVariables false
namespace Go.Proofs.YtljpbicmlcjpcaaGreatDoor.stxPushes
open Go.ChangeShapes Go.WideShapes Go.ChangeAt Go.RowKit Go.Joins
open Go.Proofs.YtljpbicmlcjpcaaGreatDoor.Ev (Ty TyAll TabAt Glob tabs closedB openedAll trodAll_below tabAt_ints_of tabAt_ifc_of tabAt_flat_of law_StxPushes returnsIn_upto witness_upto)
theorem own : ownKnob Tryz.prog.godebug = none := by kernel_rfl
theorem laidOut : laidOutB Tryz.prog = true := by kernel_rfl
set_option maxRecDepth 100000 in
theorem door_met (os : Os) (args : Array Value) : laidMetH Tryz.prog Rows.stxPushesUptoRow.laid ((World.laidAll Tryz.prog os Rows.stxPushesUptoRow.laid).forCall (fun _ _ => 0) ⟨#[], args, []⟩).memory :=
  Eq.mp (show laidMet Tryz.prog Rows.stxPushesUptoRow.laid ((World.laidAll Tryz.prog os Rows.stxPushesUptoRow.laid).forCall (fun _ _ => 0) ⟨#[], args, []⟩).memory = laidMetH Tryz.prog Rows.stxPushesUptoRow.laid ((World.laidAll Tryz.prog os Rows.stxPushesUptoRow.laid).forCall (fun _ _ => 0) ⟨#[], args, []⟩).memory by kernel_rfl) (laidMet_laidAll (os := os) args (by kernel_rfl) (by kernel_rfl))
set_option maxRecDepth 100000 in
theorem glob {W : World} (hL : laidMetH Tryz.prog Rows.stxPushesUptoRow.laid W) : Glob W := by
  have hM : laidMet Tryz.prog Rows.stxPushesUptoRow.laid W := Eq.mp (by kernel_rfl) hL
  intro x hx
  simp only [tabs, List.mem_cons, List.mem_nil_iff, or_false] at hx
  rcases hx with rfl | rfl | rfl | rfl | rfl | rfl
  · exact tabAt_flat_of (n := "unicode/utf8.first") (d := Rows.laid_unicode_utf8_first) (fs := (List.range 256).map fun c => Go.Proofs.YtljpbicmlcjpcaaGreatDoor.Ev.FV.int .u8 ((Go.Lib.firstT c : Nat) : Int)) (m := 8) hM (by kernel_rfl) (List.mem_of_getElem? (i := 6) (by kernel_rfl)) (g := 0) (t := 193) (by kernel_rfl) (by kernel_rfl) (by kernel_rfl)
  · exact tabAt_flat_of (n := "unicode/utf8.acceptRanges") (d := Rows.laid_unicode_utf8_acceptRanges) (fs := ((List.range 16).map fun i => [Go.Proofs.YtljpbicmlcjpcaaGreatDoor.Ev.FV.int .u8 ((Go.Lib.accLo i : Nat) : Int), Go.Proofs.YtljpbicmlcjpcaaGreatDoor.Ev.FV.int .u8 ((Go.Lib.accHi i : Nat) : Int)]).flatten) (m := 8) hM (by kernel_rfl) (List.mem_of_getElem? (i := 3) (by kernel_rfl)) (g := 1) (t := 197) (by kernel_rfl) (by kernel_rfl) (by kernel_rfl)
  · exact tabAt_ifc_of (n := "strconv.ErrSyntax") (d := Rows.laid_strconv_ErrSyntax) hM (by kernel_rfl) (List.mem_of_getElem? (i := 5) (by kernel_rfl)) (g := 2) (t := 166) (by kernel_rfl) (by kernel_rfl) Tryz.underlying166
  · exact tabAt_ifc_of (n := "strconv.ErrRange") (d := Rows.laid_strconv_ErrRange) hM (by kernel_rfl) (List.mem_of_getElem? (i := 4) (by kernel_rfl)) (g := 3) (t := 166) (by kernel_rfl) (by kernel_rfl) Tryz.underlying166
  · exact tabAt_flat_of (n := "internal/strconv.uint64pow10") (d := Rows.laid_internal_strconv_uint64pow10) (fs := (List.range 20).map fun i => Go.Proofs.YtljpbicmlcjpcaaGreatDoor.Ev.FV.int .u64 ((10 ^ i : Nat) : Int)) (m := 8) hM (by kernel_rfl) (List.mem_of_getElem? (i := 2) (by kernel_rfl)) (g := 5) (t := 223) (by kernel_rfl) (by kernel_rfl) (by kernel_rfl)
  · exact tabAt_flat_of (n := "math/bits.deBruijn64tab") (d := Rows.laid_math_bits_deBruijn64tab) (fs := [0, 1, 56, 2, 57, 49, 28, 3, 61, 58, 42, 50, 38, 29, 17, 4, 62, 47, 59, 36, 45, 43, 51, 22, 53, 39, 33, 30, 24, 18, 12, 5, 63, 55, 48, 27, 60, 41, 37, 16, 46, 35, 44, 21, 52, 32, 23, 11, 54, 26, 40, 15, 34, 20, 31, 10, 25, 14, 19, 9, 13, 8, 7, 6].map fun i => Go.Proofs.YtljpbicmlcjpcaaGreatDoor.Ev.FV.int .u8 i) (m := 8) hM (by kernel_rfl) (List.mem_of_getElem? (i := 1) (by kernel_rfl)) (g := 7) (t := 228) (by kernel_rfl) (by kernel_rfl) (by kernel_rfl)
set_option maxRecDepth 100000 in
theorem lifted (os : Os) (started : os.Started) (H : Type) (enc : TypeId × Value → H) :
    ReturnsInHanded {} Tryz.checked os 3 .any (fun w args => ((Rows.OpenSpec.upto Rows.stxPushesSpec).pre enc Tryz.prog Tryz.f3 Rows.stxPushesUptoRow.domain false w args ∧ laidMetH Tryz.prog Rows.stxPushesUptoRow.laid w) ∧ sizedMet enc Tryz.prog Tryz.f3 (Rows.OpenSpec.upto Rows.stxPushesSpec) false w args)
      (Rows.stxPushesSpec.post enc Tryz.prog Tryz.f3 false true false false) := by
  refine returnsIn_upto (C := Tryz.checked) (X := fun w _ => laidMetH Tryz.prog Rows.stxPushesUptoRow.laid w) (fun _ _ _ hh h => h.of_heap hh) own started (by kernel_rfl) Tryz.func3
    (witness_upto (enc := enc) (C := Tryz.checked) (os := os) (s := Rows.stxPushesSpec) (X := fun w _ => laidMetH Tryz.prog Rows.stxPushesUptoRow.laid w) (World.laidAll Tryz.prog os Rows.stxPushesUptoRow.laid) #[.agg #[.int .i64 0, .string ByteArray.empty, .bool false, .slice none 0 0, .slice none 0 0, .int .i64 0, .slice none 0 0, .slice none 0 0], .agg #[.slice none 0 0, .slice none 0 0]] 8 (World.laidAll_os _ _ _) (World.shaped_of_ZipB (by kernel_rfl) (by kernel_rfl)) (by kernel_rfl) (by kernel_rfl) (by kernel_rfl) (door_met os _)) ?_
  intro W base args ds gs before hval0 hW hcnd hbk hsz0 hL
  have hsz : (DataW.weightsEach Tryz.prog (Tryz.f3.params.toList ++ Rows.stxPushesSpec.plain.varTypes Tryz.prog) (ds ++ gs)).all (· ≤ reachBytes) = true := hsz0
  have hval : ∀ (j : Nat) t v, Tryz.f3.params[j]? = some t → args[j]? = some v → Value.okWide Tryz.prog W .any base t v := hval0
  have hW' := hW
  obtain ⟨p, q, hA0, hV, rfl, hfz, hnd⟩ := hW
  have hA : DataW.TrodAll enc Tryz.prog W 0 (fun _ => true) true Tryz.f3.params.toList args.toList ds p := hA0
  rw [Tryz.params3] at hA hval hsz
  obtain ⟨rfl, rfl⟩ := trodVars_none hV
  have hA2 := hA
  obtain ⟨v0, vs0, d0, ds0, p0, q0, hargs, rfl, rfl, h0_, r0⟩ := trodAll_cons hA2
  obtain ⟨v1, vs1, d1, ds1, p1, q1, rfl, rfl, rfl, h1_, r1⟩ := trodAll_cons r0
  obtain ⟨rfl, rfl, rfl⟩ := trodAll_nil r1
  obtain ⟨xs, h1, h2, h3, hb⟩ := openedAll (S := [28, 3, 9, 24, 4, 22, 89, 25, 26, 30]) (ts := [28, 30]) (by kernel_rfl) (by decide) (fun j t v ht hv => hval j t v (by simpa using ht) (by simpa using hv)) hA (fun m hm => by simpa using List.all_eq_true.1 hsz m hm)
  refine ((law_StxPushes xs h1 (Nat.le_trans hb hbk)).door (glob hL) (by simpa using h2) (fun i x hx => by obtain ⟨v, hv, hr⟩ := h3 i x hx; exact ⟨v, by simpa using hv, hr⟩)).mono fun e W' ⟨he, bel⟩ => ?_
  subst he
  exact ⟨_, rfl, _, _, _, [], _, [], hW', trodAll_mk1 (shut_bool Tryz.underlying4 _), trodAll_below laidOut bel (ts := [28, 30]) (by decide +kernel) hA, rfl, bel.frame _, fun h => by cases h⟩
theorem and_tt {a b : Bool} (ha : a = true) (hb : b = true) : (a && b) = true := by rw [ha, hb]; rfl
set_option maxHeartbeats 8000000 in
theorem over : Rows.stxPushesUptoRow.holds Tryz.pinned (Rows.OpenSpec.upto Rows.stxPushesSpec) :=
  OpenClaim.holds_of_cond 3 Tryz.f3 rfl rfl rfl rfl rfl rfl rfl ⟨rfl, rfl, rfl, rfl, rfl⟩ rfl rfl rfl rfl rfl (by as_aux_lemma => kernel_rfl) Tryz.func3 (by unfold joinedFacts; repeat' (with_reducible refine and_tt ?_ ?_); all_goals as_aux_lemma => kernel_rfl)
    (of_decide_eq_true (by as_aux_lemma => kernel_rfl)) (by unfold Func.isWrapper; first | (rw [if_pos (by decide +kernel)]; kernel_rfl) | (rw [if_neg (by decide +kernel)]; exact ⟨rfl, rfl⟩))
    (fun os started H enc _ _ => lifted os started H enc)
theorem proved : Rows.StxPushesUptoCardSaid :=
  Claim7.holds_tied_plain_at .later [] [.data, .data, .data, .data, .sentinel, .sentinel, .pinned] true (true, "5529037661ee0e6043dad4402c2ce233d65bf9417480a107ce49451cb39ad436") true
    over (fun _ h => by cases h) (by kernel_rfl) (fun _ h => by cases h) stxPushesUpto_row_tie rfl ⟨rfl, rfl⟩ (by kernel_rfl) rfl
    (fun f fn hf hfn => by
      obtain rfl : f = 3 := Option.some.inj ((show Tryz.prog.funcNamed "marginalia/marginalialaw10.StxPushes" = some 3 by kernel_rfl).symm.trans hf) |>.symm
      obtain rfl : fn = Tryz.f3 := (Option.some.inj (Tryz.func3.symm.trans hfn)).symm
      exact ⟨by kernel_rfl, fun j t ht => by
        rw [Tryz.params3] at ht
        have hm : t ∈ [28, 30] := by simpa using Array.mem_of_getElem? ht
        have hall : ([28, 30].all fun u => !Tryz.prog.wantsStandIn u) = true := by kernel_rfl
        exact (show Tryz.prog.wantsStandIn t = false by simpa using List.all_eq_true.1 hall t hm)⟩)
    (by kernel_rfl)
end Go.Proofs.YtljpbicmlcjpcaaGreatDoor.stxPushes
namespace Go.Proofs.YtljpbicmlcjpcaaGreatDoor
theorem stxPushesUpto_holds : Rows.StxPushesUptoCardSaid := stxPushes.proved
end Go.Proofs.YtljpbicmlcjpcaaGreatDoor
end
