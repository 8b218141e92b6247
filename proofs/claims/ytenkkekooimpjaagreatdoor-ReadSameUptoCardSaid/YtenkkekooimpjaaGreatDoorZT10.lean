/-
 Part of a claim: definitions and lemmas that its theorem leans on, packed by wip/tools/pack.py.
-/
import Derived.Test.YtenkkekooimpjaaGreatDoorZT9
set_option linter.unusedVariables false
set_option linter.unusedSimpArgs false
section
set_option linter.unusedVariables false
set_option linter.unusedSimpArgs false
namespace Go.Proofs.YtenkkekooimpjaaGreatDoor.Ev
open Go
section
structure Tok where
 kind : Int
 name : List Int
 d : Dt
 at_ : Nat
def Tok.row (x : Tok) : List FV := [.int .i64 x.kind, .str (bytesOf x.name)] ++ x.d.row ++ [.int .i64 ((x.at_ : Nat) : Int)]
def lf (k : Int) (s : List Int) (n : Bool) (l : List Int) (a : Int) : Dt := .mk k (bytesOf s) n l [] a
abbrev lfR (k : Int) (s : List Int) (n : Bool) (l : List Int) (a : Int) : List FV := [.int .i64 k, .str (bytesOf s), .bool n, .sl 1 (ints .u32 l), .sl 6 ([] : List (List FV)), .int .i64 a]
theorem lf_row (k : Int) (s : List Int) (n : Bool) (l : List Int) (a : Int) : (lf k s n l a).row = lfR k s n l a := by simp [lf, Dt.row, Dt.rows]
def signP (r : List Int) : Int × List Int × Nat :=
 if pkL r 0 = 35 ∧ pkL r 1 = 44 ∧ pkL r 2 = 64 then (6, [117, 110, 115, 121, 110, 116, 97, 120, 45, 115, 112, 108, 105, 99, 105, 110, 103], 3)
 else if pkL r 0 = 35 ∧ pkL r 1 = 44 then (6, [117, 110, 115, 121, 110, 116, 97, 120], 2)
 else if pkL r 0 = 35 ∧ pkL r 1 = 39 then (6, [115, 121, 110, 116, 97, 120], 2)
 else if pkL r 0 = 35 ∧ pkL r 1 = 96 then (6, [113, 117, 97, 115, 105, 115, 121, 110, 116, 97, 120], 2)
 else if pkL r 0 = 35 ∧ pkL r 1 = 59 then (5, [], 2)
 else if pkL r 0 = 35 ∧ pkL r 1 = 40 then (3, [], 2)
 else if pkL r 0 = 44 ∧ pkL r 1 = 64 then (6, [117, 110, 113, 117, 111, 116, 101, 45, 115, 112, 108, 105, 99, 105, 110, 103], 2)
 else if pkL r 0 = 44 then (6, [117, 110, 113, 117, 111, 116, 101], 1)
 else if pkL r 0 = 39 then (6, [113, 117, 111, 116, 101], 1)
 else if pkL r 0 = 96 then (6, [113, 117, 97, 115, 105, 113, 117, 111, 116, 101], 1)
 else if pkL r 0 = 40 then (1, [], 1)
 else if pkL r 0 = 41 then (2, [], 1)
 else if pkL r 0 = 46 ∧ (pkL r 1 < 0 ∨ endsB (pkL r 1) = true) then (4, [], 1)
 else (0, [], 0)
def datV (f : Nat) (r : List Int) (k : Nat) : Option (Int × List Int × Bool × List Int × Nat) :=
 if pkL r 0 = 34 then (match strF f (r.drop 1) [] (k + 1) with
  | some (a, e) => if a.length ≤ 4096 then some (5, enc a, false, [], e) else none
  | none => none)
 else if pkL r 0 = 35 ∧ pkL r 1 = 92 then (if 0 ≤ chV (r.drop 2) then some (6, utfB (chV (r.drop 2)), false, [], k + 2 + chQ (r.drop 2)) else none)
 else if atomK (enc (r.take (untilN r))) ≠ 0 then some (atomK (enc (r.take (untilN r))), atomS (enc (r.take (untilN r))), atomN (enc (r.take (untilN r))), atomL (enc (r.take (untilN r))), k + untilN r) else none
def nextV (t : List Int) (p : Nat) : Option (Tok × Nat) :=
 if (signP (t.drop p)).2.2 ≠ 0 then some (⟨(signP (t.drop p)).1, (signP (t.drop p)).2.1, lf 0 [] false [] 0, p⟩, p + (signP (t.drop p)).2.2)
 else match datV (t.length + 1) (t.drop p) p with
  | some (k, s, n, l, e) => some (⟨7, [], lf k s n l p, p⟩, e)
  | none => none
abbrev datT (k : Int) (s : List Int) (n : Bool) (l : List Int) (b : Bool) : TV := .tup [(true, (lfR k s n l 0).map .fz), (false, [.fz (.bool b)])]
theorem exC1 (v : TV) (h : List Ob) : ∃ R : TV → List Ob → Prop, (∀ r' h', Cool 1 r' h' v h → R r' h') ∧ (fun r' h' => Cool 1 r' h' v h) = R := ⟨_, fun _ _ h => h, rfl⟩
theorem pkL_zero (x : Int) (r : List Int) : pkL (x :: r) 0 = x := by rw [pkL_lt (by simp)]; rfl
theorem pkL_succ (x : Int) (r : List Int) (i : Nat) : pkL (x :: r) (i + 1) = pkL r i := by
 unfold pkL
 rw [List.length_cons]
 by_cases h : i < r.length
 ·rw [if_pos (by omega), if_pos h]; rfl
 ·rw [if_neg (by omega), if_neg h]
theorem hereB_1 (c : Int) (r : List Int) (hc : 0 ≤ c) : hereB [c] r = decide (pkL r 0 = c) := by
 cases r with
 | nil => unfold hereB; rw [pkL_ge (by simp)]; simp; omega
 | cons x r => unfold hereB hereB; rw [pkL_zero, Bool.and_true]
theorem hereB_2 (c d : Int) (r : List Int) (hc : 0 ≤ c) (hd : 0 ≤ d) : hereB [c, d] r = decide (pkL r 0 = c ∧ pkL r 1 = d) := by
 cases r with
 | nil => unfold hereB; rw [pkL_ge (by simp)]; simp; omega
 | cons x r =>
  unfold hereB
  rw [hereB_1 d r hd, pkL_zero, pkL_succ, ← Bool.decide_and]
theorem hereB_3 (c d e : Int) (r : List Int) (hc : 0 ≤ c) (hd : 0 ≤ d) (he : 0 ≤ e) : hereB [c, d, e] r = decide (pkL r 0 = c ∧ pkL r 1 = d ∧ pkL r 2 = e) := by
 cases r with
 | nil => unfold hereB; rw [pkL_ge (by simp)]; simp; omega
 | cons x r =>
  unfold hereB
  rw [hereB_2 d e r hd he, pkL_zero, pkL_succ, pkL_succ, ← Bool.decide_and]
theorem pkL_pos {r : List Int} {i : Nat} (h : 0 ≤ pkL r i) : i < r.length := by
 unfold pkL at h
 split at h
 ·assumption
 ·omega
theorem enc_le {t : List Int} (hlen : t.length ≤ 4000000) (p n : Nat) : (enc ((t.drop p).take n)).length ≤ 16777216 := by
 have h := enc_len ((t.drop p).take n)
 have h2 : ((t.drop p).take n).length ≤ t.length := by simp; omega
 omega
theorem sDatum_ok (t : List Int) (hs : Scals t) (hlen : t.length ≤ 4000000) (p : Nat) (hp : p < t.length) :
  ∃ k s n l b q, Fn Tryz.prog 105 [scP] (scM t p) (datT k s n l b) (scM t q) ∧ datV (t.length + 1) (t.drop p) p = if b = true then some (k, s, n, l, q) else none := by
 have hH1 := sHere_ok t hs (by omega) p (by omega) [34] (by intro x hx; simp at hx; omega) (by simp)
 have hH2 := sHere_ok t hs (by omega) p (by omega) [35, 92] (by intro x hx; simp at hx; omega) (by simp)
 rw [show bytesOf [34] = ByteArray.mk #[34] from by decide +kernel, hereB_1 _ _ (by omega)] at hH1
 rw [show bytesOf [35, 92] = ByteArray.mk #[35, 92] from by decide +kernel, hereB_2 _ _ _ (by omega) (by omega)] at hH2
 unfold datV
 by_cases c1 : pkL (t.drop p) 0 = 34
 ·have hS := sStr_ok t hs (by omega) (p + 1) (by omega)
  rw [if_pos c1, List.drop_drop]
  rw [decide_eq_true c1] at hH1
  have key : ∀ (a : List Int) (b : Bool) (q : Nat), Fn Tryz.prog 132 [scP] (scM t (p + 1)) (.tup [(false, [.fz (.str (bytesOf a))]), (false, [.fz (.bool b)])]) (scM t q) →
    Fn Tryz.prog 105 [scP] (scM t p) (datT 5 a false [] b) (scM t q) := by
   intro a b q hF
   refine token_scanner_datumO_fc _ _ ?_
   obtain ⟨R, hR, hRe⟩ := exC1 (datT 5 a false [] b) (scM t q); rw [hRe]; clear hRe
   unfold token_scanner_datumO_H
   refine ⟨_, _, _, hH1, fun _ => ⟨_, _, _, _, ?_, hR _ _ ⟨rfl, Wk.refl _, rfl⟩⟩, fun h => absurd h (by decide)⟩
   rw [w64 (by omega) (by omega)]
   exact hF
  cases hst : strF (t.length + 1) (t.drop (p + 1)) [] (p + 1) with
  | none =>
   rw [hst] at hS
   exact ⟨5, [], false, [], false, _, key _ _ _ hS, rfl⟩
  | some ae =>
   obtain ⟨a, e⟩ := ae
   rw [hst, strP_some _ _ _ _ _ _ hst] at hS
   refine ⟨5, enc a, false, [], decide (a.length ≤ 4096), e, key _ _ _ hS, ?_⟩
   simp only
   by_cases hl : a.length ≤ 4096
   ·rw [if_pos hl, decide_eq_true hl, if_pos rfl]
   ·rw [if_neg hl, decide_eq_false hl, if_neg (by simp)]
 ·rw [if_neg c1]
  rw [decide_eq_false c1] at hH1
  by_cases c2 : pkL (t.drop p) 0 = 35 ∧ pkL (t.drop p) 1 = 92
  ·rw [if_pos c2]
   rw [decide_eq_true c2] at hH2
   have h2 : p + 2 ≤ t.length := by
    have := pkL_pos (r := t.drop p) (i := 1) (by omega)
    rw [List.length_drop] at this
    omega
   have hC := sChar_ok t hs hlen (p + 2) h2
   refine ⟨6, chX (t.drop (p + 2)), false, [], decide (0 ≤ chV (t.drop (p + 2))), p + 2 + chQ (t.drop (p + 2)), ?_, ?_⟩
   ·refine token_scanner_datumO_fc _ _ ?_
    obtain ⟨R, hR, hRe⟩ := exC1 (datT 6 (chX (t.drop (p + 2))) false [] (decide (0 ≤ chV (t.drop (p + 2))))) (scM t (p + 2 + chQ (t.drop (p + 2)))); rw [hRe]; clear hRe
    unfold token_scanner_datumO_H
    refine ⟨_, _, _, hH1, fun h => absurd h (by decide), fun _ => ⟨_, _, _, hH2, fun _ => ⟨_, _, _, _, ?_, hR _ _ ⟨rfl, Wk.refl _, rfl⟩⟩, fun h => absurd h (by decide)⟩⟩
    rw [w64 (by omega) (by omega)]
    exact hC
   ·rw [List.drop_drop]
    by_cases hv : 0 ≤ chV (t.drop (p + 2))
    ·rw [if_pos hv, decide_eq_true hv, if_pos rfl]
     have : chX (t.drop (p + 2)) = utfB (chV (t.drop (p + 2))) := by
      unfold chX
      rw [if_neg (fun e => by rw [e] at hv; exact absurd hv (by decide)), if_pos hv]
     rw [this]
    ·rw [if_neg hv, decide_eq_false hv, if_neg (by simp)]
  ·rw [if_neg c2]
   rw [decide_eq_false c2] at hH2
   have hW := sWhile_ok t hs (by omega) p 0 (by omega)
   rw [Nat.add_zero, Nat.zero_add] at hW
   have hbB : Bytes (enc ((t.drop p).take (untilN (t.drop p)))) := enc_bytes ((hs.drop p).take _)
   have hA := tAtom_ok (enc ((t.drop p).take (untilN (t.drop p)))) hbB (enc_le hlen _ _)
   refine ⟨atomK (enc ((t.drop p).take (untilN (t.drop p)))), atomS (enc ((t.drop p).take (untilN (t.drop p)))), atomN (enc ((t.drop p).take (untilN (t.drop p)))), atomL (enc ((t.drop p).take (untilN (t.drop p)))), decide (atomK (enc ((t.drop p).take (untilN (t.drop p)))) ≠ 0), p + untilN (t.drop p), ?_, ?_⟩
   ·refine token_scanner_datumO_fc _ _ ?_
    obtain ⟨R, hR, hRe⟩ := exC1 (datT (atomK (enc ((t.drop p).take (untilN (t.drop p))))) (atomS (enc ((t.drop p).take (untilN (t.drop p))))) (atomN (enc ((t.drop p).take (untilN (t.drop p))))) (atomL (enc ((t.drop p).take (untilN (t.drop p))))) (decide (atomK (enc ((t.drop p).take (untilN (t.drop p)))) ≠ 0))) (scM t (p + untilN (t.drop p))); rw [hRe]; clear hRe
    unfold token_scanner_datumO_H
    exact ⟨_, _, _, hH1, fun h => absurd h (by decide), fun _ => ⟨_, _, _, hH2, fun h => absurd h (by decide), fun _ => ⟨_, _, _, hW, _, _, _, _, _, _, _, hA, hR _ _ ⟨rfl, Wk.refl _, rfl⟩⟩⟩⟩
   ·by_cases hk : atomK (enc ((t.drop p).take (untilN (t.drop p)))) ≠ 0
    ·rw [if_pos hk, decide_eq_true hk, if_pos rfl]
    ·rw [if_neg hk, decide_eq_false hk, if_neg (by simp)]
theorem sNext_H (t : List Int) (hs : Scals t) (hlen : t.length ≤ 4000000) (p : Nat) (hp : p < t.length) (R : TV → List Ob → Prop) (RX : FV → List Ob → Prop)
  (hR : ∀ tok q, nextV t p = some (tok, q) → ∀ r' h', Cool 1 r' h' (.agg (tok.row.map .fz)) (scM t q) → R r' h')
  (hX : nextV t p = none → RX (.ifv 106 true [.int .i64 ((p : Nat) : Int)]) (shH (scM t p))) :
  token_scanner_nextO_H R RX (ints .i64 t) ((p : Nat) : Int) := by
 have hpL : ∀ i, pkL (t.drop p) i = pkL t (p + i) := fun i => pkL_drop t p i
 have sg : ∀ (k : Int) (nm : List Int) (n : Nat), signP (t.drop p) = (k, nm, n) → n ≠ 0 → ∀ r' h', Cool 1 r' h' (.agg ([.int .i64 k, .str (bytesOf nm), .int .i64 0, .str (ByteArray.mk #[]), .bool false, .sl 1 ([] : List (List FV)), .sl 6 ([] : List (List FV)), .int .i64 0, .int .i64 ((p : Nat) : Int)].map .fz)) (scM t (p + n)) → R r' h' := by
  intro k nm n hsg hn r' h' hc
  have : nextV t p = some (⟨k, nm, lf 0 [] false [] 0, p⟩, p + n) := by
   unfold nextV; rw [hsg]; simp only; rw [if_pos hn]
  refine hR _ _ this r' h' ?_
  unfold Tok.row
  rw [lf_row]
  exact hc
 have kinds_ : ∀ (c : Int), pkL (t.drop p) 0 = c → pkL (t.drop p) 0 = c := fun _ h => h
 unfold token_scanner_nextO_H
 have w0 := sHere_ok t hs (by omega) p (by omega) [35, 44, 64] (by intro x hx; simp at hx; omega) (by simp)
 rw [show bytesOf [35, 44, 64] = ByteArray.mk #[35, 44, 64] from by decide +kernel, hereB_3 35 44 64 _ (by omega) (by omega) (by omega)] at w0
 refine token_scanner_nextO_l0 ?_
 unfold token_scanner_nextO_R0
 refine ⟨fun _ => ⟨⟨by omega, by omega⟩, ByteArray.mk #[35, 44, 64], 6, ByteArray.mk #[117, 110, 115, 121, 110, 116, 97, 120, 45, 115, 112, 108, 105, 99, 105, 110, 103], rfl, _, _, _, w0, fun h => ?_, fun h => ?_⟩, fun h => absurd h (by decide)⟩
 ·have h := of_decide_eq_true h
  refine sg 6 [117, 110, 115, 121, 110, 116, 97, 120, 45, 115, 112, 108, 105, 99, 105, 110, 103] 3 ?_ (by decide) _ _ ?_
  ·unfold signP
   first | (simp only [h]; rfl) | (simp [h]; done) | (simp [h]; omega)
  ·rw [show bytesOf [117, 110, 115, 121, 110, 116, 97, 120, 45, 115, 112, 108, 105, 99, 105, 110, 103] = ByteArray.mk #[117, 110, 115, 121, 110, 116, 97, 120, 45, 115, 112, 108, 105, 99, 105, 110, 103] from by decide +kernel, w64 (by have : ((ByteArray.size (ByteArray.mk #[35, 44, 64]) : Nat) : Int) = 3 := rfl; omega) (by have : ((ByteArray.size (ByteArray.mk #[35, 44, 64]) : Nat) : Int) = 3 := rfl; omega)]
   exact ⟨rfl, Wk.refl _, rfl⟩
 have g0 := of_decide_eq_false h
 clear h w0
 rw [w64 (by omega) (by omega)]
 have w1 := sHere_ok t hs (by omega) p (by omega) [35, 40] (by intro x hx; simp at hx; omega) (by simp)
 rw [show bytesOf [35, 40] = ByteArray.mk #[35, 40] from by decide +kernel, hereB_2 35 40 _ (by omega) (by omega)] at w1
 refine token_scanner_nextO_l0 ?_
 unfold token_scanner_nextO_R0
 refine ⟨fun _ => ⟨⟨by omega, by omega⟩, ByteArray.mk #[35, 40], 3, ByteArray.mk #[], rfl, _, _, _, w1, fun h => ?_, fun h => ?_⟩, fun h => absurd h (by decide)⟩
 ·have h := of_decide_eq_true h
  refine sg 3 [] 2 ?_ (by decide) _ _ ?_
  ·unfold signP
   first | (simp only [h]; rfl) | (simp [h]; done) | (simp [h]; omega)
  ·rw [show bytesOf [] = ByteArray.mk #[] from by decide +kernel, w64 (by have : ((ByteArray.size (ByteArray.mk #[35, 40]) : Nat) : Int) = 2 := rfl; omega) (by have : ((ByteArray.size (ByteArray.mk #[35, 40]) : Nat) : Int) = 2 := rfl; omega)]
   exact ⟨rfl, Wk.refl _, rfl⟩
 have g1 := of_decide_eq_false h
 clear h w1
 rw [w64 (by omega) (by omega)]
 have w2 := sHere_ok t hs (by omega) p (by omega) [35, 59] (by intro x hx; simp at hx; omega) (by simp)
 rw [show bytesOf [35, 59] = ByteArray.mk #[35, 59] from by decide +kernel, hereB_2 35 59 _ (by omega) (by omega)] at w2
 refine token_scanner_nextO_l0 ?_
 unfold token_scanner_nextO_R0
 refine ⟨fun _ => ⟨⟨by omega, by omega⟩, ByteArray.mk #[35, 59], 5, ByteArray.mk #[], rfl, _, _, _, w2, fun h => ?_, fun h => ?_⟩, fun h => absurd h (by decide)⟩
 ·have h := of_decide_eq_true h
  refine sg 5 [] 2 ?_ (by decide) _ _ ?_
  ·unfold signP
   first | (simp only [h]; rfl) | (simp [h]; done) | (simp [h]; omega)
  ·rw [show bytesOf [] = ByteArray.mk #[] from by decide +kernel, w64 (by have : ((ByteArray.size (ByteArray.mk #[35, 59]) : Nat) : Int) = 2 := rfl; omega) (by have : ((ByteArray.size (ByteArray.mk #[35, 59]) : Nat) : Int) = 2 := rfl; omega)]
   exact ⟨rfl, Wk.refl _, rfl⟩
 have g2 := of_decide_eq_false h
 clear h w2
 rw [w64 (by omega) (by omega)]
 have w3 := sHere_ok t hs (by omega) p (by omega) [35, 39] (by intro x hx; simp at hx; omega) (by simp)
 rw [show bytesOf [35, 39] = ByteArray.mk #[35, 39] from by decide +kernel, hereB_2 35 39 _ (by omega) (by omega)] at w3
 refine token_scanner_nextO_l0 ?_
 unfold token_scanner_nextO_R0
 refine ⟨fun _ => ⟨⟨by omega, by omega⟩, ByteArray.mk #[35, 39], 6, ByteArray.mk #[115, 121, 110, 116, 97, 120], rfl, _, _, _, w3, fun h => ?_, fun h => ?_⟩, fun h => absurd h (by decide)⟩
 ·have h := of_decide_eq_true h
  refine sg 6 [115, 121, 110, 116, 97, 120] 2 ?_ (by decide) _ _ ?_
  ·unfold signP
   first | (simp only [h]; rfl) | (simp [h]; done) | (simp [h]; omega)
  ·rw [show bytesOf [115, 121, 110, 116, 97, 120] = ByteArray.mk #[115, 121, 110, 116, 97, 120] from by decide +kernel, w64 (by have : ((ByteArray.size (ByteArray.mk #[35, 39]) : Nat) : Int) = 2 := rfl; omega) (by have : ((ByteArray.size (ByteArray.mk #[35, 39]) : Nat) : Int) = 2 := rfl; omega)]
   exact ⟨rfl, Wk.refl _, rfl⟩
 have g3 := of_decide_eq_false h
 clear h w3
 rw [w64 (by omega) (by omega)]
 have w4 := sHere_ok t hs (by omega) p (by omega) [35, 96] (by intro x hx; simp at hx; omega) (by simp)
 rw [show bytesOf [35, 96] = ByteArray.mk #[35, 96] from by decide +kernel, hereB_2 35 96 _ (by omega) (by omega)] at w4
 refine token_scanner_nextO_l0 ?_
 unfold token_scanner_nextO_R0
 refine ⟨fun _ => ⟨⟨by omega, by omega⟩, ByteArray.mk #[35, 96], 6, ByteArray.mk #[113, 117, 97, 115, 105, 115, 121, 110, 116, 97, 120], rfl, _, _, _, w4, fun h => ?_, fun h => ?_⟩, fun h => absurd h (by decide)⟩
 ·have h := of_decide_eq_true h
  refine sg 6 [113, 117, 97, 115, 105, 115, 121, 110, 116, 97, 120] 2 ?_ (by decide) _ _ ?_
  ·unfold signP
   first | (simp only [h]; rfl) | (simp [h]; done) | (simp [h]; omega)
  ·rw [show bytesOf [113, 117, 97, 115, 105, 115, 121, 110, 116, 97, 120] = ByteArray.mk #[113, 117, 97, 115, 105, 115, 121, 110, 116, 97, 120] from by decide +kernel, w64 (by have : ((ByteArray.size (ByteArray.mk #[35, 96]) : Nat) : Int) = 2 := rfl; omega) (by have : ((ByteArray.size (ByteArray.mk #[35, 96]) : Nat) : Int) = 2 := rfl; omega)]
   exact ⟨rfl, Wk.refl _, rfl⟩
 have g4 := of_decide_eq_false h
 clear h w4
 rw [w64 (by omega) (by omega)]
 have w5 := sHere_ok t hs (by omega) p (by omega) [35, 44] (by intro x hx; simp at hx; omega) (by simp)
 rw [show bytesOf [35, 44] = ByteArray.mk #[35, 44] from by decide +kernel, hereB_2 35 44 _ (by omega) (by omega)] at w5
 refine token_scanner_nextO_l0 ?_
 unfold token_scanner_nextO_R0
 refine ⟨fun _ => ⟨⟨by omega, by omega⟩, ByteArray.mk #[35, 44], 6, ByteArray.mk #[117, 110, 115, 121, 110, 116, 97, 120], rfl, _, _, _, w5, fun h => ?_, fun h => ?_⟩, fun h => absurd h (by decide)⟩
 ·have h := of_decide_eq_true h
  refine sg 6 [117, 110, 115, 121, 110, 116, 97, 120] 2 ?_ (by decide) _ _ ?_
  ·unfold signP
   first | (simp only [h]; rfl) | (simp [h]; done) | (simp [h]; omega)
  ·rw [show bytesOf [117, 110, 115, 121, 110, 116, 97, 120] = ByteArray.mk #[117, 110, 115, 121, 110, 116, 97, 120] from by decide +kernel, w64 (by have : ((ByteArray.size (ByteArray.mk #[35, 44]) : Nat) : Int) = 2 := rfl; omega) (by have : ((ByteArray.size (ByteArray.mk #[35, 44]) : Nat) : Int) = 2 := rfl; omega)]
   exact ⟨rfl, Wk.refl _, rfl⟩
 have g5 := of_decide_eq_false h
 clear h w5
 rw [w64 (by omega) (by omega)]
 have w6 := sHere_ok t hs (by omega) p (by omega) [44, 64] (by intro x hx; simp at hx; omega) (by simp)
 rw [show bytesOf [44, 64] = ByteArray.mk #[44, 64] from by decide +kernel, hereB_2 44 64 _ (by omega) (by omega)] at w6
 refine token_scanner_nextO_l0 ?_
 unfold token_scanner_nextO_R0
 refine ⟨fun _ => ⟨⟨by omega, by omega⟩, ByteArray.mk #[44, 64], 6, ByteArray.mk #[117, 110, 113, 117, 111, 116, 101, 45, 115, 112, 108, 105, 99, 105, 110, 103], rfl, _, _, _, w6, fun h => ?_, fun h => ?_⟩, fun h => absurd h (by decide)⟩
 ·have h := of_decide_eq_true h
  refine sg 6 [117, 110, 113, 117, 111, 116, 101, 45, 115, 112, 108, 105, 99, 105, 110, 103] 2 ?_ (by decide) _ _ ?_
  ·unfold signP
   first | (simp only [h]; rfl) | (simp [h]; done) | (simp [h]; omega)
  ·rw [show bytesOf [117, 110, 113, 117, 111, 116, 101, 45, 115, 112, 108, 105, 99, 105, 110, 103] = ByteArray.mk #[117, 110, 113, 117, 111, 116, 101, 45, 115, 112, 108, 105, 99, 105, 110, 103] from by decide +kernel, w64 (by have : ((ByteArray.size (ByteArray.mk #[44, 64]) : Nat) : Int) = 2 := rfl; omega) (by have : ((ByteArray.size (ByteArray.mk #[44, 64]) : Nat) : Int) = 2 := rfl; omega)]
   exact ⟨rfl, Wk.refl _, rfl⟩
 have g6 := of_decide_eq_false h
 clear h w6
 rw [w64 (by omega) (by omega)]
 have w7 := sHere_ok t hs (by omega) p (by omega) [40] (by intro x hx; simp at hx; omega) (by simp)
 rw [show bytesOf [40] = ByteArray.mk #[40] from by decide +kernel, hereB_1 40 _ (by omega)] at w7
 refine token_scanner_nextO_l0 ?_
 unfold token_scanner_nextO_R0
 refine ⟨fun _ => ⟨⟨by omega, by omega⟩, ByteArray.mk #[40], 1, ByteArray.mk #[], rfl, _, _, _, w7, fun h => ?_, fun h => ?_⟩, fun h => absurd h (by decide)⟩
 ·have h := of_decide_eq_true h
  refine sg 1 [] 1 ?_ (by decide) _ _ ?_
  ·unfold signP
   first | (simp only [h]; rfl) | (simp [h]; done) | (simp [h]; omega)
  ·rw [show bytesOf [] = ByteArray.mk #[] from by decide +kernel, w64 (by have : ((ByteArray.size (ByteArray.mk #[40]) : Nat) : Int) = 1 := rfl; omega) (by have : ((ByteArray.size (ByteArray.mk #[40]) : Nat) : Int) = 1 := rfl; omega)]
   exact ⟨rfl, Wk.refl _, rfl⟩
 have g7 := of_decide_eq_false h
 clear h w7
 rw [w64 (by omega) (by omega)]
 have w8 := sHere_ok t hs (by omega) p (by omega) [41] (by intro x hx; simp at hx; omega) (by simp)
 rw [show bytesOf [41] = ByteArray.mk #[41] from by decide +kernel, hereB_1 41 _ (by omega)] at w8
 refine token_scanner_nextO_l0 ?_
 unfold token_scanner_nextO_R0
 refine ⟨fun _ => ⟨⟨by omega, by omega⟩, ByteArray.mk #[41], 2, ByteArray.mk #[], rfl, _, _, _, w8, fun h => ?_, fun h => ?_⟩, fun h => absurd h (by decide)⟩
 ·have h := of_decide_eq_true h
  refine sg 2 [] 1 ?_ (by decide) _ _ ?_
  ·unfold signP
   first | (simp only [h]; rfl) | (simp [h]; done) | (simp [h]; omega)
  ·rw [show bytesOf [] = ByteArray.mk #[] from by decide +kernel, w64 (by have : ((ByteArray.size (ByteArray.mk #[41]) : Nat) : Int) = 1 := rfl; omega) (by have : ((ByteArray.size (ByteArray.mk #[41]) : Nat) : Int) = 1 := rfl; omega)]
   exact ⟨rfl, Wk.refl _, rfl⟩
 have g8 := of_decide_eq_false h
 clear h w8
 rw [w64 (by omega) (by omega)]
 have w9 := sHere_ok t hs (by omega) p (by omega) [39] (by intro x hx; simp at hx; omega) (by simp)
 rw [show bytesOf [39] = ByteArray.mk #[39] from by decide +kernel, hereB_1 39 _ (by omega)] at w9
 refine token_scanner_nextO_l0 ?_
 unfold token_scanner_nextO_R0
 refine ⟨fun _ => ⟨⟨by omega, by omega⟩, ByteArray.mk #[39], 6, ByteArray.mk #[113, 117, 111, 116, 101], rfl, _, _, _, w9, fun h => ?_, fun h => ?_⟩, fun h => absurd h (by decide)⟩
 ·have h := of_decide_eq_true h
  refine sg 6 [113, 117, 111, 116, 101] 1 ?_ (by decide) _ _ ?_
  ·unfold signP
   first | (simp only [h]; rfl) | (simp [h]; done) | (simp [h]; omega)
  ·rw [show bytesOf [113, 117, 111, 116, 101] = ByteArray.mk #[113, 117, 111, 116, 101] from by decide +kernel, w64 (by have : ((ByteArray.size (ByteArray.mk #[39]) : Nat) : Int) = 1 := rfl; omega) (by have : ((ByteArray.size (ByteArray.mk #[39]) : Nat) : Int) = 1 := rfl; omega)]
   exact ⟨rfl, Wk.refl _, rfl⟩
 have g9 := of_decide_eq_false h
 clear h w9
 rw [w64 (by omega) (by omega)]
 have w10 := sHere_ok t hs (by omega) p (by omega) [96] (by intro x hx; simp at hx; omega) (by simp)
 rw [show bytesOf [96] = ByteArray.mk #[96] from by decide +kernel, hereB_1 96 _ (by omega)] at w10
 refine token_scanner_nextO_l0 ?_
 unfold token_scanner_nextO_R0
 refine ⟨fun _ => ⟨⟨by omega, by omega⟩, ByteArray.mk #[96], 6, ByteArray.mk #[113, 117, 97, 115, 105, 113, 117, 111, 116, 101], rfl, _, _, _, w10, fun h => ?_, fun h => ?_⟩, fun h => absurd h (by decide)⟩
 ·have h := of_decide_eq_true h
  refine sg 6 [113, 117, 97, 115, 105, 113, 117, 111, 116, 101] 1 ?_ (by decide) _ _ ?_
  ·unfold signP
   first | (simp only [h]; rfl) | (simp [h]; done) | (simp [h]; omega)
  ·rw [show bytesOf [113, 117, 97, 115, 105, 113, 117, 111, 116, 101] = ByteArray.mk #[113, 117, 97, 115, 105, 113, 117, 111, 116, 101] from by decide +kernel, w64 (by have : ((ByteArray.size (ByteArray.mk #[96]) : Nat) : Int) = 1 := rfl; omega) (by have : ((ByteArray.size (ByteArray.mk #[96]) : Nat) : Int) = 1 := rfl; omega)]
   exact ⟨rfl, Wk.refl _, rfl⟩
 have g10 := of_decide_eq_false h
 clear h w10
 rw [w64 (by omega) (by omega)]
 have w11 := sHere_ok t hs (by omega) p (by omega) [44] (by intro x hx; simp at hx; omega) (by simp)
 rw [show bytesOf [44] = ByteArray.mk #[44] from by decide +kernel, hereB_1 44 _ (by omega)] at w11
 refine token_scanner_nextO_l0 ?_
 unfold token_scanner_nextO_R0
 refine ⟨fun _ => ⟨⟨by omega, by omega⟩, ByteArray.mk #[44], 6, ByteArray.mk #[117, 110, 113, 117, 111, 116, 101], rfl, _, _, _, w11, fun h => ?_, fun h => ?_⟩, fun h => absurd h (by decide)⟩
 ·have h := of_decide_eq_true h
  refine sg 6 [117, 110, 113, 117, 111, 116, 101] 1 ?_ (by decide) _ _ ?_
  ·unfold signP
   first | (simp only [h]; rfl) | (simp [h]; done) | (simp [h]; omega)
  ·rw [show bytesOf [117, 110, 113, 117, 111, 116, 101] = ByteArray.mk #[117, 110, 113, 117, 111, 116, 101] from by decide +kernel, w64 (by have : ((ByteArray.size (ByteArray.mk #[44]) : Nat) : Int) = 1 := rfl; omega) (by have : ((ByteArray.size (ByteArray.mk #[44]) : Nat) : Int) = 1 := rfl; omega)]
   exact ⟨rfl, Wk.refl _, rfl⟩
 have g11 := of_decide_eq_false h
 clear h w11
 rw [w64 (by omega) (by omega)]
 refine token_scanner_nextO_l0 ?_
 unfold token_scanner_nextO_R0
 have hpk := sPeek_ok t p 0 (by omega) (by omega)
 rw [← hpL 0] at hpk
 obtain ⟨dk, ds, dn, dl, db, dq, hD, hV⟩ := sDatum_ok t hs hlen p hp
 refine ⟨fun h => absurd h (by decide), fun _ => ⟨_, _, _, hpk, ?_⟩⟩
 simp only [beq_t, beq_f, not_t, not_f, decide_eq_true_eq, decide_eq_false_iff_not]
 have leaf : signP (t.drop p) = (0, [], 0) → ∀ X Y : Prop, (RX (.ifv 106 true [.int .i64 ((p : Nat) : Int)]) (shH (scM t p)) → X) → (R (.agg ([.int .i64 7, .str (ByteArray.mk #[]), .int .i64 dk, .str (bytesOf ds), .bool dn, .sl 1 (ints .u32 dl), .sl 6 ([] : List (List FV)), .int .i64 ((p : Nat) : Int), .int .i64 ((p : Nat) : Int)].map .fz)) (scM t dq) → Y) → ((db = false → X) ∧ (db = true → Y)) := by
  intro hsg X Y hx hy
  refine ⟨fun hb => hx (hX ?_), fun hb => hy (hR ⟨7, [], lf dk ds dn dl p, p⟩ dq ?_ _ _ ?_)⟩
  ·unfold nextV; rw [hsg]; simp only; rw [if_neg (by simp), hV, hb, if_neg (by simp)]
  ·unfold nextV; rw [hsg]; simp only; rw [if_neg (by simp), hV, hb, if_pos rfl]
  ·unfold Tok.row
   rw [lf_row]
   exact ⟨rfl, Wk.refl _, rfl⟩
 refine ⟨fun c46 => ⟨_, _, _, sLeft_ok t p 2 (by omega) (by omega), ?_⟩, fun c46 => ?_⟩
 ·have e1 : IntKind.wrap .i64 ((p : Int) + 1) = ((p + 1 : Nat) : Int) := w64 (by omega) (by omega)
  have dot : (pkL (t.drop p) 1 < 0 ∨ endsB (pkL (t.drop p) 1) = true) → R (.agg [.fz (.int .i64 4), .fz (.str (ByteArray.mk #[])), .fz (.int .i64 0), .fz (.str (ByteArray.mk #[])), .fz (.bool false), .ofl 1 1, .ofl 6 2, .fz (.int .i64 0), .fz (.int .i64 ((p : Nat) : Int))]) [.g 110 [.fz (.sl 1 (ints .i64 t)), .fz (.int .i64 (IntKind.wrap .i64 ((p : Int) + 1)))], .f 0 1 ([] : List (List FV)), .f 0 6 ([] : List (List FV))] := fun h => by
   rw [e1]
   exact sg 4 [] 1 (by unfold signP; simp [c46, h]) (by decide) _ _ ⟨rfl, Wk.refl _, rfl⟩
  simp only [not_t, not_f, decide_eq_true_eq, decide_eq_false_iff_not]
  refine ⟨fun h2 => dot (.inl ?_), fun h2 => ⟨_, _, _, sPeek_ok t p 1 (by omega) (by omega), _, uEnds_ok _, fun he => dot (.inr ?_), fun he => ⟨_, _, _, _, _, _, _, _, _, hD, ?_⟩⟩⟩
  ·rw [hpL 1, pkL_ge (by omega)]; omega
  ·rw [hpL 1]; exact he
  ·have hsg : signP (t.drop p) = (0, [], 0) := by
    have hlt : p + 1 < t.length := by omega
    have h1 : ¬ (pkL (t.drop p) 1 < 0 ∨ endsB (pkL (t.drop p) 1) = true) := by
     rw [hpL 1]
     rintro (h | h)
     ·rw [pkL_lt hlt] at h
      have := (scal_in (hs.rd hlt)).1
      omega
     ·rw [he] at h; cases h
    unfold signP
    simp only [c46]
    rw [if_neg (by omega), if_neg (by omega), if_neg (by omega), if_neg (by omega), if_neg (by omega), if_neg (by omega), if_neg (by omega), if_neg (by omega), if_neg (by omega), if_neg (by omega), if_neg (by omega), if_neg (by omega), if_neg (fun h => h1 h.2)]
   exact leaf hsg _ _ (fun h => h) (fun h => h)
 ·refine ⟨_, _, _, _, _, _, _, _, _, hD, ?_⟩
  have hsg : signP (t.drop p) = (0, [], 0) := by
   unfold signP
   rw [if_neg g0, if_neg g5, if_neg g3, if_neg g4, if_neg g2, if_neg g1, if_neg g6, if_neg g11, if_neg g9, if_neg g10, if_neg g7, if_neg g8, if_neg (fun h => c46 h.1)]
  exact leaf hsg _ _ (fun h => h) (fun h => h)
theorem sNext_ok (t : List Int) (hs : Scals t) (hlen : t.length ≤ 4000000) (p : Nat) (hp : p < t.length) (tok : Tok) (q : Nat) (h : nextV t p = some (tok, q)) :
  Fn Tryz.prog 68 [scP] (scM t p) (.agg (tok.row.map .fz)) (scM t q) := by
 refine token_scanner_nextO_fc _ _ (sNext_H t hs hlen p hp _ _ (fun tok' q' h' r' hh hc => ?_) (fun h' => ?_))
 ·rw [h] at h'; cases h'; exact hc
 ·rw [h] at h'; cases h'
theorem sNext_fx (t : List Int) (hs : Scals t) (hlen : t.length ≤ 4000000) (p : Nat) (hp : p < t.length) (h : nextV t p = none) :
  FnX Tryz.prog 68 [scP] (scM t p) (.ifv 106 true [.int .i64 ((p : Nat) : Int)]) := by
 refine token_scanner_nextO_fx _ _ (sNext_H t hs hlen p hp _ _ (fun tok' q' h' r' hh hc => ?_) (fun h' => ⟨rfl, rfl⟩))
 rw [h] at h'; cases h'
end
section
theorem FnC.args {P : Program} {C : Array Value → World → (Ending → World → Prop) → Prop} {E : Ending → Value → Prop} {xs ys : List TV} {h : List Ob} {r : TV} {h' : List Ob} (hl : xs.length = ys.length)
  (hr : ∀ (i : Nat) (x : TV), xs[i]? = some x → ∃ y, ys[i]? = some y ∧ ∀ (w : World) (B : Nat → Prop) (locs : Nat → Option Loc) (v : Value), RT w B locs y v → RT w B locs x v)
  (F : FnC P C E xs h r h') : FnC P C E ys h r h' := by
 intro ext w locs vals H hsz hrep
 refine F ext w locs vals H (by rw [hsz, hl]) (fun i x hi => ?_)
 obtain ⟨y, hy, himp⟩ := hr i x hi
 obtain ⟨v, hv, hv2⟩ := hrep i y hy
 exact ⟨v, hv, himp _ _ _ _ hv2⟩
theorem FnC.ptr1 {P : Program} {C : Array Value → World → (Ending → World → Prop) → Prop} {E : Ending → Value → Prop} {o e c ty : Nat} (ty' : Nat) {xs : List TV} {h : List Ob} {r : TV} {h' : List Ob}
  (F : FnC P C E (.one (.ptr o e c ty) :: xs) h r h') : FnC P C E (.one (.ptr o e c ty') :: xs) h r h' := by
 refine FnC.args (by simp) (fun i x hi => ?_) F
 cases i with
 | zero => cases hi; exact ⟨_, rfl, fun _ _ _ _ h => h⟩
 | succ i => exact ⟨x, hi, fun _ _ _ _ h => h⟩
theorem FnC.ptr3 {P : Program} {C : Array Value → World → (Ending → World → Prop) → Prop} {E : Ending → Value → Prop} {o e c ty o2 e2 c2 ty2 o3 e3 c3 ty3 : Nat} {xs : List TV} {h : List Ob} {r : TV} {h' : List Ob}
  (F : FnC P C E (.one (.ptr o e c ty) :: .one (.ptr o2 e2 c2 ty2) :: .one (.ptr o3 e3 c3 ty3) :: xs) h r h') : FnC P C E (.one (.ptr o e c 0) :: .one (.ptr o2 e2 c2 0) :: .one (.ptr o3 e3 c3 0) :: xs) h r h' := by
 refine FnC.args (by simp) (fun i x hi => ?_) F
 match i, hi with
 | 0, hi => cases hi; exact ⟨_, rfl, fun _ _ _ _ h => h⟩
 | 1, hi => cases hi; exact ⟨_, rfl, fun _ _ _ _ h => h⟩
 | 2, hi => cases hi; exact ⟨_, rfl, fun _ _ _ _ h => h⟩
 | i + 3, hi => exact ⟨x, hi, fun _ _ _ _ h => h⟩
end
section
def scanL : Nat → List Int → Nat → List Tok → List Tok × Int × Int
 | 0, _, _, _ => ([], 0, 3)
 | f + 1, t, p, acc => if t.length ≤ p + blC false (t.drop p) then (acc, 0, 0) else
  match nextV t (p + blC false (t.drop p)) with
  | some (tok, e) => scanL f t e (acc ++ [tok])
  | none => ([], ((p + blC false (t.drop p) : Nat) : Int), 3)
def badN : List Int → Nat
 | [] => 0
 | c :: r => if scalB c = true then badN r + 1 else 0
def scanV (t : List Int) : List Tok × Int × Int := if badN t < t.length then ([], ((badN t : Nat) : Int), 1) else scanL (t.length + 1) t 0 []
abbrev toks (l : List Tok) : List (List FV) := l.map Tok.row
abbrev scT (x : List Tok × Int × Int) : TV := .tup [(false, [.fz (.sl 9 (toks x.1))]), (false, [.fz (.int .i64 x.2.1)]), (false, [.fz (.int .i64 x.2.2)])]
theorem toks_snoc (l : List Tok) (x : Tok) : toks l ++ [x.row] = toks (l ++ [x]) := by simp [toks]
theorem badN_scals : ∀ {t : List Int}, ¬ badN t < t.length → Scals t
 | [], _ => by intro c hc; cases hc
 | c :: r, h => by
  unfold badN at h
  split at h
  ·rename_i hc
   rw [List.length_cons] at h
   intro x hx
   rcases List.mem_cons.1 hx with rfl | hx
   ·exact hc
   ·exact badN_scals (by omega) x hx
  ·simp at h
theorem badN_spec : ∀ (t : List Int) (j : Nat), (j < badN t → scalB (rd t j) = true) ∧ (badN t < t.length → scalB (rd t (badN t)) = false)
 | [], j => ⟨fun h => by simp [badN] at h, fun h => by simp [badN] at h⟩
 | c :: r, j => by
  have ih := badN_spec r
  unfold badN
  by_cases hc : scalB c = true
  ·rw [if_pos hc]
   refine ⟨fun h => ?_, fun h => ?_⟩
   ·cases j with
    | zero => exact hc
    | succ j => exact (ih j).1 (by omega)
   ·rw [List.length_cons] at h
    exact (ih 0).2 (by omega)
  ·rw [if_neg hc]
   refine ⟨fun h => by omega, fun h => ?_⟩
   show scalB c = false
   simpa using hc
theorem badN_le : ∀ t : List Int, badN t ≤ t.length
 | [] => Nat.le_refl _
 | c :: r => by
  have := badN_le r
  unfold badN
  split <;> simp <;> omega
theorem ite_all {α : Type} {P : α → Prop} {c : Prop} [Decidable c] {a b : α} (h1 : c → P a) (h2 : ¬ c → P b) : P (if c then a else b) := by
 by_cases h : c
 ·rw [if_pos h]; exact h1 h
 ·rw [if_neg h]; exact h2 h
theorem signP_pos {r : List Int} (h : (signP r).2.2 ≠ 0) : (signP r).2.2 ≤ r.length ∧ (signP r).2.2 ≤ 3 := by
 have h0 : ∀ c, 0 ≤ c → pkL r 0 = c → 1 ≤ r.length := fun c hc e => pkL_pos (by omega)
 have h1 : ∀ c, 0 ≤ c → pkL r 1 = c → 2 ≤ r.length := fun c hc e => pkL_pos (by omega)
 have h2 : ∀ c, 0 ≤ c → pkL r 2 = c → 3 ≤ r.length := fun c hc e => pkL_pos (by omega)
 revert h
 unfold signP
 refine ite_all (P := fun s : Int × List Int × Nat => s.2.2 ≠ 0 → s.2.2 ≤ r.length ∧ s.2.2 ≤ 3) (fun hc _ => ⟨h2 _ (by omega) hc.2.2, by simp⟩) (fun _ => ?_)
 refine ite_all (P := fun s : Int × List Int × Nat => s.2.2 ≠ 0 → s.2.2 ≤ r.length ∧ s.2.2 ≤ 3) (fun hc _ => ⟨h1 _ (by omega) hc.2, by simp⟩) (fun _ => ?_)
 refine ite_all (P := fun s : Int × List Int × Nat => s.2.2 ≠ 0 → s.2.2 ≤ r.length ∧ s.2.2 ≤ 3) (fun hc _ => ⟨h1 _ (by omega) hc.2, by simp⟩) (fun _ => ?_)
 refine ite_all (P := fun s : Int × List Int × Nat => s.2.2 ≠ 0 → s.2.2 ≤ r.length ∧ s.2.2 ≤ 3) (fun hc _ => ⟨h1 _ (by omega) hc.2, by simp⟩) (fun _ => ?_)
 refine ite_all (P := fun s : Int × List Int × Nat => s.2.2 ≠ 0 → s.2.2 ≤ r.length ∧ s.2.2 ≤ 3) (fun hc _ => ⟨h1 _ (by omega) hc.2, by simp⟩) (fun _ => ?_)
 refine ite_all (P := fun s : Int × List Int × Nat => s.2.2 ≠ 0 → s.2.2 ≤ r.length ∧ s.2.2 ≤ 3) (fun hc _ => ⟨h1 _ (by omega) hc.2, by simp⟩) (fun _ => ?_)
 refine ite_all (P := fun s : Int × List Int × Nat => s.2.2 ≠ 0 → s.2.2 ≤ r.length ∧ s.2.2 ≤ 3) (fun hc _ => ⟨h1 _ (by omega) hc.2, by simp⟩) (fun _ => ?_)
 refine ite_all (P := fun s : Int × List Int × Nat => s.2.2 ≠ 0 → s.2.2 ≤ r.length ∧ s.2.2 ≤ 3) (fun hc _ => ⟨h0 _ (by omega) hc, by simp⟩) (fun _ => ?_)
 refine ite_all (P := fun s : Int × List Int × Nat => s.2.2 ≠ 0 → s.2.2 ≤ r.length ∧ s.2.2 ≤ 3) (fun hc _ => ⟨h0 _ (by omega) hc, by simp⟩) (fun _ => ?_)
 refine ite_all (P := fun s : Int × List Int × Nat => s.2.2 ≠ 0 → s.2.2 ≤ r.length ∧ s.2.2 ≤ 3) (fun hc _ => ⟨h0 _ (by omega) hc, by simp⟩) (fun _ => ?_)
 refine ite_all (P := fun s : Int × List Int × Nat => s.2.2 ≠ 0 → s.2.2 ≤ r.length ∧ s.2.2 ≤ 3) (fun hc _ => ⟨h0 _ (by omega) hc, by simp⟩) (fun _ => ?_)
 refine ite_all (P := fun s : Int × List Int × Nat => s.2.2 ≠ 0 → s.2.2 ≤ r.length ∧ s.2.2 ≤ 3) (fun hc _ => ⟨h0 _ (by omega) hc, by simp⟩) (fun _ => ?_)
 refine ite_all (P := fun s : Int × List Int × Nat => s.2.2 ≠ 0 → s.2.2 ≤ r.length ∧ s.2.2 ≤ 3) (fun hc _ => ⟨h0 _ (by omega) hc.1, by simp⟩) (fun _ => ?_)
 exact fun h => absurd rfl h
theorem strF_le : ∀ (f : Nat) (r acc : List Int) (k : Nat) (a : List Int) (e : Nat), strF f r acc k = some (a, e) → k < e ∧ e ≤ k + r.length
 | 0, r, acc, k, a, e, h => by unfold strF at h; cases h
 | f + 1, [], acc, k, a, e, h => by unfold strF at h; cases h
 | f + 1, c :: r, acc, k, a, e, h => by
  unfold strF at h
  split at h
  ·cases h; simp
  ·split at h
   ·have := strF_le f r _ _ a e h
    simp only [List.length_cons]; omega
   ·split at h
    ·cases h
    ·rename_i hc
     have := strF_le f _ _ _ a e h
     have g := (escV_pos (r := r) (by omega)).2.2
     simp only [List.length_cons, List.length_drop] at this ⊢
     omega
theorem chN_le (r : List Int) (h : r ≠ []) : chN_ r ≤ r.length := by
 have := untilN_le (r.drop 1)
 have hl : r.length ≠ 0 := fun e => h (List.length_eq_zero_iff.1 e)
 unfold chN_
 rw [List.length_drop] at this
 omega
theorem atomK_nil : atomK [] = 0 := by decide +kernel
theorem datV_le {f : Nat} {r : List Int} {p : Nat} {k : Int} {s : List Int} {n : Bool} {l : List Int} {e : Nat} (h : datV f r p = some (k, s, n, l, e)) : p < e ∧ e ≤ p + r.length := by
 unfold datV at h
 split at h
 ·rename_i hc
  have hr : 0 < r.length := pkL_pos (i := 0) (by omega)
  split at h
  ·rename_i a e' hst
   split at h
   ·cases h
    have := strF_le _ _ _ _ _ _ hst
    rw [List.length_drop] at this
    omega
   ·cases h
  ·cases h
 ·split at h
  ·rename_i hc
   have hr : 1 < r.length := pkL_pos (i := 1) (by omega)
   split at h
   ·rename_i hv
    cases h
    have hne : r.drop 2 ≠ [] := fun e => by rw [e] at hv; exact absurd hv (by decide)
    have := chN_le _ hne
    unfold chQ
    rw [if_neg hne]
    rw [List.length_drop] at this
    have h1 : 1 ≤ chN_ (r.drop 2) := by unfold chN_; omega
    omega
   ·cases h
  ·split at h
   ·rename_i hk
    cases h
    have := untilN_le r
    have h0 : untilN r ≠ 0 := fun e => by
     rw [e, List.take_zero, show enc [] = [] from rfl, atomK_nil] at hk
     exact hk rfl
    omega
   ·cases h
theorem nextV_le {t : List Int} {p : Nat} {tok : Tok} {e : Nat} (hp : p ≤ t.length) (h : nextV t p = some (tok, e)) : p < e ∧ e ≤ t.length := by
 unfold nextV at h
 split at h
 ·rename_i hs
  cases h
  have := signP_pos hs
  rw [List.length_drop] at this
  omega
 ·split at h
  ·rename_i k s n l e' hd
   cases h
   have := datV_le hd
   rw [List.length_drop] at this
   omega
  ·cases h
theorem scanDx_ok (q : Nat) : FnDf Tryz.prog 65 [.one (.ptr 0 0 0 0), .one (.ptr 1 0 0 0), .one (.ptr 2 0 0 0)] [.g 62 [.und], .g 3 [.und], .g 24 [.und]] (some (.ifv 106 true [.int .i64 ((q : Nat) : Int)]))
  [.g 62 [.nsl 9], .g 3 [.fz (.int .i64 ((q : Nat) : Int))], .g 24 [.fz (.int .i64 3)]] := by
 have := scanDx_fn ((q : Nat) : Int) (h := [.g 62 [.nsl 9], .g 3 [.fz (.int .i64 ((q : Nat) : Int))], .g 24 [.fz (.int .i64 3)]]) ⟨fun _ => Wk.refl _, fun h => absurd h (by decide)⟩
 exact FnC.ptr3 this
theorem scanD0_ok (l : List (List FV)) : FnDf Tryz.prog 65 [.one (.ptr 0 0 0 0), .one (.ptr 1 0 0 0), .one (.ptr 2 0 0 0)] [.g 62 [.ofl 9 3], .g 3 [.fz (.int .i64 0)], .g 24 [.fz (.int .i64 0)], .f 0 9 l] none
  [.g 62 [.ofl 9 3], .g 3 [.fz (.int .i64 0)], .g 24 [.fz (.int .i64 0)], .f 0 9 l] := by
 have := scanD0_fn 0 0 l (h := [.g 62 [.ofl 9 3], .g 3 [.fz (.int .i64 0)], .g 24 [.fz (.int .i64 0)], .f 0 9 l]) ⟨fun h => absurd h (by decide), fun _ => Wk.refl _⟩
 exact FnC.ptr3 this
theorem sScan_loop (t : List Int) (hs : Scals t) (hlen : t.length ≤ 4000000) (R : TV → List Ob → Prop) (RX : FV → List Ob → Prop) : ∀ (f p : Nat) (acc : List Tok), t.length - p < f → p ≤ t.length → acc.length ≤ p → R (scT (scanL f t p acc)) [] →
  token_Scan_L0 R RX (ints .i64 t) ((p + blC false (t.drop p) : Nat) : Int) (toks acc) := by
 intro f
 induction f with
 | zero => intro p acc hf; omega
 | succ f ih =>
  intro p acc hf hp hacc hR
  have hb := blC_le false (t.drop p)
  rw [List.length_drop] at hb
  unfold scanL at hR
  generalize hq : p + blC false (t.drop p) = q at *
  refine token_Scan_l0 ?_
  unfold token_Scan_R0
  refine ⟨_, _, _, FnC.ptr1 0 (sLeft_ok t q 1 (by omega) (by omega)), fun h => ?_, fun h => ?_⟩
  ·have hlt : q < t.length := of_decide_eq_true h
   rw [if_neg (by omega)] at hR
   cases hn : nextV t q with
   | none =>
    rw [hn] at hR
    exact .inl ⟨_, FnC.ptr1 0 (sNext_fx t hs hlen q hlt hn), _, _, scanDx_ok q, hR⟩
   | some te =>
    obtain ⟨tok, e⟩ := te
    rw [hn] at hR
    simp only at hR
    have hle := nextV_le (by omega) hn
    have hN := sNext_ok t hs hlen q hlt tok e hn
    obtain ⟨tk, tn, td, ta⟩ := tok
    obtain ⟨dk, dt, dn, dl, dds, da⟩ := td
    refine .inr ⟨_, _, _, _, _, _, _, _, _, _, _, FnC.ptr1 0 hN, by simp only [List.length_map, List.length_cons, List.length_nil]; omega, _, _, FnC.ptr1 0 (sBlanks_ok t (by omega) e (by omega)), ?_⟩
    have := ih e (acc ++ [⟨tk, tn, .mk dk dt dn dl dds da, ta⟩]) (by omega) (by omega) (by simp; omega) hR
    rw [← toks_snoc] at this
    exact this
  ·have hge : t.length ≤ q := by have := of_decide_eq_false h; omega
   rw [if_pos hge] at hR
   exact ⟨_, _, _, scanD0_ok _, hR⟩
theorem ixScal_loop (t : List Int) (hlen : t.length ≤ 100000000) (R : TV → List Ob → Prop) (hR : R (fzI .i64 (if badN t < t.length then ((badN t : Nat) : Int) else -1)) []) : ∀ (m j : Nat), t.length - j = m → j ≤ badN t → ixScal_L0 R (ints .i64 t) j := by
 have hle := badN_le t
 intro m
 induction m with
 | zero =>
  intro j hj h
  refine ixScal_l0 ?_
  unfold ixScal_R0
  rw [ints_len]
  refine ⟨fun h => absurd (of_decide_eq_true h) (by omega), fun _ => ?_⟩
  rw [if_neg (by omega)] at hR
  exact hR
 | succ m ih =>
  intro j hj h
  have hlt : j < t.length := by omega
  refine ixScal_l0 ?_
  unfold ixScal_R0
  rw [ints_len]
  refine ⟨fun _ => ⟨by omega, rd t j, by simp [ints, some_rd hlt], _, scanFn1_ok _, fun hb => ?_, fun hb => ?_⟩, fun h => absurd (of_decide_eq_false h) (by omega)⟩
  ·have : ¬ j < badN t := fun h2 => by
    have := (badN_spec t j).1 h2
    rw [this] at hb; cases hb
   have e : badN t = j := by omega
   rw [e, if_pos hlt] at hR
   exact hR
  ·have hb' : scalB (rd t j) = true := by simpa using hb
   have : badN t ≠ j := fun e => by
    have := (badN_spec t j).2 (by omega)
    rw [e, hb'] at this; cases this
   rw [w64 (by omega) (by omega)]
   exact ih (j + 1) (by omega) (by omega)
theorem tScan_ok (t : List Int) (hlen : t.length ≤ 4000000) : Fn Tryz.prog 38 [fzS .i64 t] [] (scT (scanV t)) [] := by
 refine token_Scan_fn _ ?_
 obtain ⟨R, hR, hRe⟩ := exW (scT (scanV t)) []; rw [hRe]; clear hRe
 unfold scanV at hR
 unfold token_Scan_H
 refine ⟨_, ixScal_fn _ (ixScal_loop t (by omega) _ ⟨rfl, rfl⟩ _ 0 rfl (Nat.zero_le _)), ?_⟩
 by_cases hb : badN t < t.length
 ·rw [if_pos hb] at hR ⊢
  exact ⟨fun _ => hR _ (Wk.refl _), fun h => absurd (of_decide_eq_false h) (by omega)⟩
 ·rw [if_neg hb] at hR ⊢
  refine ⟨fun h => absurd (of_decide_eq_true h) (by omega), fun _ => ?_⟩
  exact ⟨_, _, FnC.ptr1 0 (sBlanks_ok t (by omega) 0 (by omega)), sScan_loop t (badN_scals hb) hlen R _ (t.length + 1) 0 [] (by omega) (by omega) (by simp) (hR _ (Wk.refl _))⟩
end
section
theorem drow_at {xs : List Dt} {i : Nat} {x : Dt} (h : xs[i]? = some x) : (Dt.rows xs)[i]? = some x.row := by rw [rows_get, h]; rfl
end
section
theorem str_eq (a b : ByteArray) : (ByteArray.toList a == ByteArray.toList b) = decide (a = b) := by
 have := eq_bytes (bs_bytes a) (bs_bytes b)
 rw [of_bs, of_bs] at this
 rw [this, decide_eq_decide]
 exact ⟨fun h => bs_inj h, fun h => by rw [h]⟩
theorem len_bne (n m : Nat) : (((n : Nat) : Int) != ((m : Nat) : Int)) = !decide (n = m) := by
 rw [Bool.eq_iff_iff]; simp [bne]; omega
mutual
def Dt.same : Dt → Dt → Bool
 | .mk k t n l xs _, .mk k' t' n' l' ys _ => decide (k = k') && (decide (t = t') && (decide (n = n' ∧ l = l') && (decide (xs.length = ys.length) && Dt.sameL xs ys)))
def Dt.sameL : List Dt → List Dt → Bool
 | [], _ => true
 | x :: xs, ys => match ys with
  | [] => true
  | y :: ys => x.same y && Dt.sameL xs ys
end
theorem sameL_cons (x y : Dt) (xs ys : List Dt) : Dt.sameL (x :: xs) (y :: ys) = (x.same y && Dt.sameL xs ys) := by simp only [Dt.sameL]
mutual
theorem same_self' : ∀ x : Dt, x.same x = true
 | .mk k t n l xs a => by
  unfold Dt.same
  rw [sameL_self xs]; simp
theorem sameL_self : ∀ xs : List Dt, Dt.sameL xs xs = true
 | [] => by simp only [Dt.sameL]
 | x :: xs => by rw [sameL_cons, same_self' x, sameL_self xs]; rfl
end
theorem rSame_loop (k : Int) (t : ByteArray) (n : Bool) (l : List Int) (a : Int) (k' : Int) (t' : ByteArray) (n' : Bool) (l' : List Int) (a' : Int) (xs ys : List Dt) (hl : xs.length ≤ 1048576) (hxy : xs.length = ys.length)
  (hp : ∀ x ∈ xs, ∀ y, Fn Tryz.prog 19 [fzD x, fzD y] [] (fzB (x.same y)) [])
  (R : TV → List Ob → Prop) (hR : R (fzB (Dt.sameL xs ys)) []) : ∀ (d j : Nat), j + d = xs.length → Dt.sameL xs ys = Dt.sameL (xs.drop j) (ys.drop j) → ref02_Same_L0 R k t n (ints .u32 l) (Dt.rows xs) a k' t' n' (ints .u32 l') (Dt.rows ys) a' j
 | 0, j, hj, h => by
  refine ref02_Same_l0 ?_
  unfold ref02_Same_R0
  rw [rows_len, dec_t, dec_f]
  refine ⟨fun h => by omega, fun _ => ?_⟩
  rw [h, List.drop_of_length_le (by omega)] at hR
  simpa only [Dt.sameL] using hR
 | d + 1, j, hj, h => by
  have hF := hp xs[j] (List.getElem_mem _) (ys[j]'(by omega))
  have hr := drow_at (List.getElem?_eq_getElem (show j < xs.length by omega))
  have hr2 := drow_at (List.getElem?_eq_getElem (show j < ys.length by omega))
  have hd : xs.drop j = xs[j] :: xs.drop (j + 1) := List.drop_eq_getElem_cons (by omega)
  have hd2 : ys.drop j = ys[j]'(by omega) :: ys.drop (j + 1) := List.drop_eq_getElem_cons (by omega)
  rw [hd, hd2, sameL_cons] at h
  generalize xs[j] = y at hF hr h
  generalize ys[j]'(by omega) = z at hF hr2 h
  obtain ⟨k1, t1, n1, l1, ys1, a1⟩ := y
  obtain ⟨k2, t2, n2, l2, ys2, a2⟩ := z
  unfold fzD at hF
  simp only [Dt.row, List.map_cons, List.map_nil] at hF hr hr2
  refine ref02_Same_l0 ?_
  unfold ref02_Same_R0
  have e : IntKind.wrap .i64 ((j : Int) + 1) = ((j + 1 : Nat) : Int) := w64 (by omega) (by omega)
  rw [rows_len, dec_t, dec_f, e]
  refine ⟨fun _ => ⟨by omega, _, _, _, _, _, _, hr, by omega, _, _, _, _, _, _, hr2, _, hF, ?_⟩, fun h => by omega⟩
  rw [not_t, not_f]
  refine ⟨fun h1 => ?_, fun h1 => ?_⟩
  ·rw [h, h1, Bool.false_and] at hR; exact hR
  ·exact rSame_loop k t n l a k' t' n' l' a' xs ys hl hxy hp R hR d (j + 1) (by omega) (by rw [h, h1, Bool.true_and])
mutual
theorem rSame_ok : ∀ (x y : Dt), x.ok → Fn Tryz.prog 19 [fzD x, fzD y] [] (fzB (x.same y)) []
 | .mk k t n l xs a, .mk k' t' n' l' ys a', hok => by
  unfold Dt.ok at hok
  obtain ⟨_, _, _, hl4, hxl, hxs, _⟩ := hok
  have hall := rSame_all xs hxs
  obtain ⟨R, hR, hRe⟩ := exR (fzB ((Dt.mk k t n l xs a).same (.mk k' t' n' l' ys a')))
  unfold fzD
  simp only [Dt.row, List.map_cons, List.map_nil]
  refine ref02_Same_fn _ _ _ _ _ _ _ _ _ _ _ _ ?_
  rw [hRe]
  clear hRe
  unfold ref02_Same_H
  unfold Dt.same at hR
  rw [str_eq, rows_len, rows_len, len_bne, bne_t, bne_f, not_t, not_f, dec_t, not_t, not_f]
  refine ⟨fun h => ?_, fun h => ⟨fun h2 => ?_, fun h2 => ⟨_, same_ok n n' l l' (by omega), ?_⟩⟩⟩
  ·rw [decide_eq_false h, Bool.false_and] at hR; exact hR
  ·rw [decide_eq_true h, h2] at hR; exact hR
  ·rw [not_t, not_f]
   refine ⟨fun h3 => ?_, fun h3 => ⟨fun h4 => ?_, fun h4 => ?_⟩⟩
   ·rw [decide_eq_true h, decide_eq_true h2, h3] at hR; exact hR
   ·rw [decide_eq_true h, decide_eq_true h2, h3, h4] at hR; exact hR
   ·rw [decide_eq_true h, decide_eq_true h2, h3, h4, Bool.true_and, Bool.true_and, Bool.true_and, Bool.true_and] at hR
    exact rSame_loop k t n l a k' t' n' l' a' xs ys hxl (of_decide_eq_true h4) hall R hR xs.length 0 (by omega) rfl
theorem rSame_all : ∀ (xs : List Dt), Dt.oks xs → ∀ x ∈ xs, ∀ y, Fn Tryz.prog 19 [fzD x, fzD y] [] (fzB (x.same y)) []
 | [], hok => fun x hx => by cases hx
 | z :: xs, hok => fun x hx y => by
  unfold Dt.oks at hok
  have h1 := rSame_ok z y hok.1
  have h2 := rSame_all xs hok.2
  rcases List.mem_cons.1 hx with rfl | hx
  ·exact h1
  ·exact h2 x hx y
end
end
section
open Go Go.RowKit
def Dt.kind : Dt → Int
 | .mk k _ _ _ _ _ => k
end
section
inductive RdR (α : Type) where
 | ok (v : α) (n : Nat) (nd : Int)
 | bad (at_ e : Int)
def Dt.list : Dt → List Dt
 | .mk _ _ _ _ ds _ => ds
def begE (dp d nd : Int) : Int := if dp < d then 5 else if 8192 < nd + 1 then 6 else 0
def tE : ByteArray := ByteArray.mk #[]
def lsD (k : Int) (ds : List Dt) (a : Int) : Dt := .mk k tE false [] ds a
def endD (l : List Dt) (tail : Option Dt) (a : Int) : Dt :=
 match tail with
 | none => lsD 1 l a
 | some x => if x.kind = 1 ∨ x.kind = 2 then lsD x.kind (l ++ x.list) a else lsD 2 (l ++ [x]) a
mutual
def skipR (dp en : Int) (ts : List Tok) (d nd : Int) : RdR Unit :=
 match ts with
 | [] => .ok () 0 nd
 | t :: r =>
  if t.kind = 5 then
   match behR dp en r d nd with
   | .bad a e => .bad a e
   | .ok _ n nd1 => match skipR dp en (r.drop n) d nd1 with
    | .bad a e => .bad a e
    | .ok _ m nd2 => .ok () (1 + n + m) nd2
  else .ok () 0 nd
termination_by (ts.length, 0)
decreasing_by all_goals (simp_wf; omega)
def datR (dp en : Int) (ts : List Tok) (d nd : Int) : RdR Dt :=
 match ts with
 | [] => .bad 0 0
 | t :: r =>
  if t.kind = 2 ∨ t.kind = 4 then .bad t.at_ 3
  else if begE dp d nd ≠ 0 then .bad t.at_ (begE dp d nd)
  else if t.kind = 7 then .ok t.d 1 (nd + 1)
  else if t.kind = 6 then
   if begE dp (d + 1) (nd + 1) ≠ 0 then .bad t.at_ (begE dp (d + 1) (nd + 1))
   else match behR dp en r (d + 1) (nd + 2) with
    | .bad a e => .bad a e
    | .ok x n nd1 => .ok (lsD 1 [lf 4 t.name false [] t.at_, x] t.at_) (1 + n) nd1
  else if t.kind = 3 then
   match insR dp en r (d + 1) true [] none (nd + 1) with
   | .bad a e => .bad a e
   | .ok v n nd1 => .ok (lsD 3 v.1 t.at_) (1 + n) nd1
  else
   match insR dp en r (d + 1) false [] none (nd + 1) with
   | .bad a e => .bad a e
   | .ok v n nd1 => .ok (endD v.1 v.2 t.at_) (1 + n) nd1
termination_by (ts.length, 1)
decreasing_by all_goals (simp_wf; omega)
def behR (dp en : Int) (ts : List Tok) (d nd : Int) : RdR Dt :=
 match skipR dp en ts d nd with
 | .bad a e => .bad a e
 | .ok _ n nd1 =>
  match ts.drop n with
  | [] => .bad en 3
  | t :: _ =>
   if t.kind = 2 ∨ t.kind = 4 then .bad t.at_ 3
   else match datR dp en (ts.drop n) d nd1 with
    | .bad a e => .bad a e
    | .ok x m nd2 => .ok x (n + m) nd2
termination_by (ts.length, 2)
decreasing_by all_goals (simp_wf; omega)
def insR (dp en : Int) (ts : List Tok) (d : Int) (v : Bool) (acc : List Dt) (tail : Option Dt) (nd : Int) : RdR (List Dt × Option Dt) :=
 match skipR dp en ts d nd with
 | .bad a e => .bad a e
 | .ok _ n nd1 =>
  match h : ts.drop n with
  | [] => .bad en 3
  | t :: r =>
   if t.kind = 2 then .ok (acc, tail) (n + 1) nd1
   else if tail.isSome = true then .bad t.at_ 3
   else if t.kind ≠ 4 then
    match datR dp en (ts.drop n) d nd1 with
    | .bad a e => .bad a e
    | .ok x m nd2 => match insR dp en (r.drop (m - 1)) d v (acc ++ [x]) none nd2 with
     | .bad a e => .bad a e
     | .ok w k nd3 => .ok w (n + m + k) nd3
   else if v = true ∨ acc = [] then .bad t.at_ 3
   else
    match behR dp en r d nd1 with
    | .bad a e => .bad a e
    | .ok x m nd2 => match insR dp en (r.drop m) d v acc (some x) nd2 with
     | .bad a e => .bad a e
     | .ok w k nd3 => .ok w (n + 1 + m + k) nd3
termination_by (ts.length, 2)
decreasing_by
 all_goals (try have h2 := congrArg List.length h)
 all_goals (try simp only [List.length_drop, List.length_cons] at h2)
 all_goals simp_wf
 all_goals omega
end
end
section
theorem begE_zero {dp d nd : Int} (h : ¬ begE dp d nd ≠ 0) : d ≤ dp ∧ nd + 1 ≤ 8192 := by
 unfold begE at h
 split at h
 ·exact absurd (by decide) h
 ·split at h
  ·exact absurd (by decide) h
  ·omega
def Plain (ts : List Tok) : Prop := ∀ t ∈ ts, t.d.list = []
theorem Plain.drop {ts : List Tok} (h : Plain ts) (n : Nat) : Plain (ts.drop n) := fun t ht => h t (List.mem_of_mem_drop ht)
theorem Plain.tail {t : Tok} {r : List Tok} (h : Plain (t :: r)) : Plain r := fun x hx => h x (List.mem_cons_of_mem _ hx)
theorem lsD_list (k : Int) (ds : List Dt) (a : Int) : (lsD k ds a).list = ds := rfl
theorem endD_list (l : List Dt) (t : Option Dt) (a : Int) : (endD l t a).list.length ≤ l.length + (match t with | none => 0 | some x => x.list.length + 1) := by
 unfold endD
 split
 ·simp [lsD_list]
 ·split
  ·rw [lsD_list, List.length_append]; (try simp only); omega
  ·rw [lsD_list, List.length_append]; simp
structure RdB (dp en : Int) (ts : List Tok) : Prop where
 s : ∀ (d nd : Int) (n : Nat) (nd' : Int), 0 ≤ nd → nd ≤ 8192 → skipR dp en ts d nd = .ok () n nd' → n ≤ ts.length ∧ nd ≤ nd' ∧ nd' ≤ 8192
 d : ∀ (d nd : Int) (x : Dt) (n : Nat) (nd' : Int), 0 ≤ nd → nd ≤ 8192 → datR dp en ts d nd = .ok x n nd' → 1 ≤ n ∧ n ≤ ts.length ∧ nd ≤ nd' ∧ nd' ≤ 8192 ∧ x.list.length + 1 ≤ 2 * n
 b : ∀ (d nd : Int) (x : Dt) (n : Nat) (nd' : Int), 0 ≤ nd → nd ≤ 8192 → behR dp en ts d nd = .ok x n nd' → 1 ≤ n ∧ n ≤ ts.length ∧ nd ≤ nd' ∧ nd' ≤ 8192 ∧ x.list.length + 1 ≤ 2 * n
 i : ∀ (d : Int) (v : Bool) (acc : List Dt) (tail : Option Dt) (nd : Int) (w : List Dt × Option Dt) (n : Nat) (nd' : Int), 0 ≤ nd → nd ≤ 8192 → insR dp en ts d v acc tail nd = .ok w n nd' → 1 ≤ n ∧ n ≤ ts.length ∧ nd ≤ nd' ∧ nd' ≤ 8192 ∧
  w.1.length + (match w.2 with | none => 0 | some x => x.list.length + 1) + 1 ≤ acc.length + (match tail with | none => 0 | some x => x.list.length + 1) + 2 * n
theorem rdB_all (dp en : Int) : ∀ (N : Nat) (ts : List Tok), ts.length = N → Plain ts → RdB dp en ts := by
 intro N
 induction N using Nat.strongRecOn with
 | _ N ih =>
  intro ts hN hp
  have sub : ∀ ts' : List Tok, ts'.length < ts.length → Plain ts' → RdB dp en ts' := fun ts' h hp' => ih ts'.length (by omega) ts' rfl hp'
  have hs : ∀ (d nd : Int) (n : Nat) (nd' : Int), 0 ≤ nd → nd ≤ 8192 → skipR dp en ts d nd = .ok () n nd' → n ≤ ts.length ∧ nd ≤ nd' ∧ nd' ≤ 8192 := by
   intro d nd n nd' h0 h1 h
   unfold skipR at h
   cases ts with
   | nil => simp only at h; cases h; exact ⟨by simp, by omega, by omega⟩
   | cons t r =>
    simp only at h
    by_cases c : t.kind = 5
    ·rw [if_pos c] at h
     cases hb : behR dp en r d nd with
     | bad a e => rw [hb] at h; cases h
     | ok x n1 nd1 =>
      rw [hb] at h
      simp only at h
      obtain ⟨g1, g2, g3, g4, _⟩ := (sub r (by simp) hp.tail).b d nd x n1 nd1 h0 h1 hb
      cases hk : skipR dp en (r.drop n1) d nd1 with
      | bad a e => rw [hk] at h; cases h
      | ok u m nd2 =>
       rw [hk] at h
       simp only at h
       cases h
       obtain ⟨k1, k2, k3⟩ := (sub (r.drop n1) (by simp; omega) (hp.tail.drop n1)).s d nd1 m _ (by omega) g4 hk
       rw [List.length_drop] at k1
       refine ⟨?_, ?_, ?_⟩
       ·simp only [List.length_cons]; omega
       ·omega
       ·omega
    ·rw [if_neg c] at h
     cases h
     exact ⟨by simp, by omega, by omega⟩
  have hd : ∀ (d nd : Int) (x : Dt) (n : Nat) (nd' : Int), 0 ≤ nd → nd ≤ 8192 → datR dp en ts d nd = .ok x n nd' → 1 ≤ n ∧ n ≤ ts.length ∧ nd ≤ nd' ∧ nd' ≤ 8192 ∧ x.list.length + 1 ≤ 2 * n := by
   intro d nd x n nd' h0 h1 h
   unfold datR at h
   cases ts with
   | nil => simp only at h; cases h
   | cons t r =>
    simp only at h
    by_cases c1 : t.kind = 2 ∨ t.kind = 4
    ·rw [if_pos c1] at h; cases h
    rw [if_neg c1] at h
    by_cases c2 : begE dp d nd ≠ 0
    ·rw [if_pos c2] at h; cases h
    rw [if_neg c2] at h
    obtain ⟨b1, b2⟩ := begE_zero c2
    by_cases c3 : t.kind = 7
    ·rw [if_pos c3] at h
     cases h
     refine ⟨by omega, by simp, by omega, by omega, ?_⟩
     rw [hp t (by simp)]; simp
    rw [if_neg c3] at h
    by_cases c4 : t.kind = 6
    ·rw [if_pos c4] at h
     by_cases c5 : begE dp (d + 1) (nd + 1) ≠ 0
     ·rw [if_pos c5] at h; cases h
     rw [if_neg c5] at h
     obtain ⟨b3, b4⟩ := begE_zero c5
     cases hb : behR dp en r (d + 1) (nd + 2) with
     | bad a e => rw [hb] at h; cases h
     | ok y n1 nd1 =>
      rw [hb] at h
      simp only at h
      cases h
      obtain ⟨g1, g2, g3, g4, _⟩ := (sub r (by simp) hp.tail).b _ _ _ _ _ (by omega) (by omega) hb
      refine ⟨by omega, by simp only [List.length_cons]; omega, by omega, by omega, ?_⟩
      rw [lsD_list]; simp; omega
    rw [if_neg c4] at h
    by_cases c6 : t.kind = 3
    ·rw [if_pos c6] at h
     cases hb : insR dp en r (d + 1) true [] none (nd + 1) with
     | bad a e => rw [hb] at h; cases h
     | ok y n1 nd1 =>
      rw [hb] at h
      simp only at h
      cases h
      obtain ⟨g1, g2, g3, g4, g5⟩ := (sub r (by simp) hp.tail).i _ _ _ _ _ _ _ _ (by omega) (by omega) hb
      refine ⟨by omega, by simp only [List.length_cons]; omega, by omega, by omega, ?_⟩
      rw [lsD_list]
      simp only [List.length_nil] at g5
      omega
    ·rw [if_neg c6] at h
     cases hb : insR dp en r (d + 1) false [] none (nd + 1) with
     | bad a e => rw [hb] at h; cases h
     | ok y n1 nd1 =>
      rw [hb] at h
      simp only at h
      cases h
      obtain ⟨g1, g2, g3, g4, g5⟩ := (sub r (by simp) hp.tail).i _ _ _ _ _ _ _ _ (by omega) (by omega) hb
      refine ⟨by omega, by simp only [List.length_cons]; omega, by omega, by omega, ?_⟩
      have := endD_list y.1 y.2 t.at_
      simp only [List.length_nil] at g5
      omega
  have hb : ∀ (d nd : Int) (x : Dt) (n : Nat) (nd' : Int), 0 ≤ nd → nd ≤ 8192 → behR dp en ts d nd = .ok x n nd' → 1 ≤ n ∧ n ≤ ts.length ∧ nd ≤ nd' ∧ nd' ≤ 8192 ∧ x.list.length + 1 ≤ 2 * n := by
   intro d nd x n nd' h0 h1 h
   unfold behR at h
   cases hk : skipR dp en ts d nd with
   | bad a e => rw [hk] at h; cases h
   | ok u n1 nd1 =>
    rw [hk] at h
    simp only at h
    obtain ⟨k1, k2, k3⟩ := hs d nd n1 nd1 h0 h1 hk
    have hdat : ∀ (x : Dt) (n : Nat) (nd' : Int), datR dp en (ts.drop n1) d nd1 = .ok x n nd' → 1 ≤ n ∧ n ≤ (ts.drop n1).length ∧ nd1 ≤ nd' ∧ nd' ≤ 8192 ∧ x.list.length + 1 ≤ 2 * n := by
     intro x n nd' h
     by_cases e : n1 = 0
     ·subst e
      rw [List.drop_zero] at h ⊢
      exact hd d nd1 x n nd' (by omega) k3 h
     ·by_cases hl : ts.length = 0
      ·have : ts = [] := List.length_eq_zero_iff.1 hl
       subst this
       rw [List.drop_nil] at h
       unfold datR at h
       cases h
      ·exact (sub (ts.drop n1) (by simp; omega) (hp.drop n1)).d d nd1 x n nd' (by omega) k3 h
    cases hdr : ts.drop n1 with
    | nil => rw [hdr] at h; simp only at h; cases h
    | cons t r =>
     rw [hdr] at h
     simp only at h
     by_cases c : t.kind = 2 ∨ t.kind = 4
     ·rw [if_pos c] at h; cases h
     rw [if_neg c] at h
     cases hq : datR dp en (t :: r) d nd1 with
     | bad a e => rw [hq] at h; cases h
     | ok y m nd2 =>
      rw [hq] at h
      simp only at h
      cases h
      obtain ⟨g1, g2, g3, g4, g5⟩ := hdat x m nd' (by rw [hdr]; exact hq)
      rw [List.length_drop] at g2
      exact ⟨by omega, by omega, by omega, by omega, by omega⟩
  refine ⟨hs, hd, hb, ?_⟩
  intro d v acc tail nd w n nd' h0 h1 h
  unfold insR at h
  cases hk : skipR dp en ts d nd with
  | bad a e => rw [hk] at h; cases h
  | ok u n1 nd1 =>
   rw [hk] at h
   simp only at h
   obtain ⟨k1, k2, k3⟩ := hs d nd n1 nd1 h0 h1 hk
   split at h
   ·cases h
   ·rename_i t r hdr
    have hlen := congrArg List.length hdr
    rw [List.length_drop, List.length_cons] at hlen
    have hpr : Plain r := by
     have := hp.drop n1
     rw [hdr] at this
     exact this.tail
    have hdat : ∀ (x : Dt) (n : Nat) (nd' : Int), datR dp en (ts.drop n1) d nd1 = .ok x n nd' → 1 ≤ n ∧ n ≤ (ts.drop n1).length ∧ nd1 ≤ nd' ∧ nd' ≤ 8192 ∧ x.list.length + 1 ≤ 2 * n := by
     intro x n nd' h
     by_cases e : n1 = 0
     ·subst e
      rw [List.drop_zero] at h ⊢
      exact hd d nd1 x n nd' (by omega) k3 h
     ·exact (sub (ts.drop n1) (by simp; omega) (hp.drop n1)).d d nd1 x n nd' (by omega) k3 h
    by_cases c1 : t.kind = 2
    ·rw [if_pos c1] at h
     cases h
     refine ⟨by omega, by omega, by omega, by omega, ?_⟩
     simp only; omega
    rw [if_neg c1] at h
    by_cases c2 : tail.isSome = true
    ·rw [if_pos c2] at h; cases h
    rw [if_neg c2] at h
    have ht : tail = none := by cases tail with
     | none => rfl
     | some x => exact absurd rfl c2
    subst ht
    by_cases c3 : t.kind ≠ 4
    ·rw [if_pos c3] at h
     cases hq : datR dp en (ts.drop n1) d nd1 with
     | bad a e => rw [hq] at h; cases h
     | ok y m nd2 =>
      rw [hq] at h
      simp only at h
      obtain ⟨g1, g2, g3, g4, g5⟩ := hdat y m nd2 hq
      rw [List.length_drop] at g2
      cases hi : insR dp en (r.drop (m - 1)) d v (acc ++ [y]) none nd2 with
      | bad a e => rw [hi] at h; cases h
      | ok w' k nd3 =>
       rw [hi] at h
       simp only at h
       cases h
       obtain ⟨j1, j2, j3, j4, j5⟩ := (sub (r.drop (m - 1)) (by simp; omega) (hpr.drop _)).i _ _ _ _ _ _ _ _ (by omega) g4 hi
       rw [List.length_drop] at j2
       refine ⟨by omega, by omega, by omega, by omega, ?_⟩
       simp only [List.length_append, List.length_cons, List.length_nil] at j5 ⊢
       omega
    ·rw [if_neg c3] at h
     by_cases c4 : v = true ∨ acc = []
     ·rw [if_pos c4] at h; cases h
     rw [if_neg c4] at h
     cases hq : behR dp en r d nd1 with
     | bad a e => rw [hq] at h; cases h
     | ok y m nd2 =>
      rw [hq] at h
      simp only at h
      obtain ⟨g1, g2, g3, g4, g5⟩ := (sub r (by omega) hpr).b _ _ _ _ _ (by omega) k3 hq
      cases hi : insR dp en (r.drop m) d v acc (some y) nd2 with
      | bad a e => rw [hi] at h; cases h
      | ok w' k nd3 =>
       rw [hi] at h
       simp only at h
       cases h
       obtain ⟨j1, j2, j3, j4, j5⟩ := (sub (r.drop m) (by simp; omega) (hpr.drop _)).i _ _ _ _ _ _ _ _ (by omega) g4 hi
       rw [List.length_drop] at j2
       refine ⟨by omega, by omega, by omega, by omega, ?_⟩
       simp only at j5 ⊢
       omega
end
set_option maxRecDepth 100000
section
def read_fail_lv : List Nat → Keep := lvOf []
def read_fail_H (R : TV → List Ob → Prop) (RX : FV → List Ob → Prop) (at_ : Int) (e : Int) : Prop :=
 (RX (FV.ifv 66 true [(FV.int .i64 at_), (FV.int .i64 e)]) [])
theorem read_fail_fx (at_ : Int) (e : Int) {x : FV} (H : read_fail_H (fun _ _ => False) (fun x' h' => x' = x ∧ h' = shH []) at_ e) : FnX Tryz.prog 70 [(TV.one (AV.fz (FV.int .i64 at_))), (TV.one (AV.fz (FV.int .i64 e)))] [] x :=
 FnX.by_tr (M := (modeX [] [] [] 0 (fun x' h' => x' = x ∧ h' = shH []))) (lv := read_fail_lv) (own := none) (F := Tryz.f70) (by kernel_rfl) (by kernel_rfl) (by first | decide | simp) (fun _ _ h => h) (by kernel_rfl) H
def read_reader_moreO_lv : List Nat → Keep := lvOf []
def read_reader_moreO_H (R : TV → List Ob → Prop) (ws : List (List FV)) (p : Int) (en : Int) (dp : Int) (nd : Int) : Prop :=
 (R (TV.one (AV.fz (FV.bool (decide (p < (((List.length ws) : Nat) : Int)))))) [(Ob.g 70 [(AV.fz (FV.sl 9 ws)), (AV.fz (FV.int .i64 p)), (AV.fz (FV.int .i64 en)), (AV.fz (FV.int .i64 dp)), (AV.fz (FV.int .i64 nd))])])
theorem read_reader_moreO_fn (ws : LL) (p : Int) (en : Int) (dp : Int) (nd : Int) {r : TV} {h : List Ob} (H : read_reader_moreO_H (fun r' h' => r' = r ∧ Wk h' h) ws p en dp nd) : Fn Tryz.prog 41 [(TV.one (AV.ptr 0 0 0 70))] [(Ob.g 70 [(AV.fz (FV.sl 9 ws)), (AV.fz (FV.int .i64 p)), (AV.fz (FV.int .i64 en)), (AV.fz (FV.int .i64 dp)), (AV.fz (FV.int .i64 nd))])] r h :=
 Fn.by_trW (M := (modeOf [] [])) (lv := read_reader_moreO_lv) (own := (some 1)) (F := Tryz.f41) (by kernel_rfl) (by kernel_rfl) (by first | decide | simp) (fun _ _ h => h) (by kernel_rfl) H
def read_reader_beginO_lv : List Nat → Keep := lvOf []
def read_reader_beginO_H (R : TV → List Ob → Prop) (RX : FV → List Ob → Prop) (a : Int) (d : Int) (ws : LL) (p : Int) (en : Int) (dp : Int) (nd : Int) : Prop :=
 ((((decide (dp < d)) = true) → (∃ v2 : FV, ((FnX Tryz.prog 70 [(TV.one (AV.fz (FV.int .i64 a))), (TV.one (AV.fz (FV.int .i64 5)))] [] v2) ∧ (RX v2 [(Ob.g 70 [AV.und, AV.und, AV.und, AV.und, AV.und])])))) ∧ (((decide (dp < d)) = false) → ((((decide ((8192 : Int) < (IntKind.wrap .i64 (nd + 1)))) = true) → (∃ v3 : FV, ((FnX Tryz.prog 70 [(TV.one (AV.fz (FV.int .i64 a))), (TV.one (AV.fz (FV.int .i64 6)))] [] v3) ∧ (RX v3 [(Ob.g 70 [AV.und, AV.und, AV.und, AV.und, AV.und])])))) ∧ (((decide ((8192 : Int) < (IntKind.wrap .i64 (nd + 1)))) = false) → (R (TV.tup []) [(Ob.g 70 [(AV.fz (FV.sl 9 ws)), (AV.fz (FV.int .i64 p)), (AV.fz (FV.int .i64 en)), (AV.fz (FV.int .i64 dp)), (AV.fz (FV.int .i64 (IntKind.wrap .i64 (nd + 1))))])])))))
theorem read_reader_beginO_fn (a : Int) (d : Int) (ws : LL) (p : Int) (en : Int) (dp : Int) (nd : Int) {r : TV} {h : List Ob} (H : read_reader_beginO_H (fun r' h' => r' = r ∧ Wk h' h) (fun _ _ => False) a d ws p en dp nd) : Fn Tryz.prog 71 [(TV.one (AV.ptr 0 0 0 70)), (TV.one (AV.fz (FV.int .i64 a))), (TV.one (AV.fz (FV.int .i64 d)))] [(Ob.g 70 [(AV.fz (FV.sl 9 ws)), (AV.fz (FV.int .i64 p)), (AV.fz (FV.int .i64 en)), (AV.fz (FV.int .i64 dp)), (AV.fz (FV.int .i64 nd))])] r h :=
 Fn.by_trW (M := (modeX [] [] [70, 1000070] 1 (fun _ _ => False))) (lv := read_reader_beginO_lv) (own := (some 1)) (F := Tryz.f71) (by kernel_rfl) (by kernel_rfl) (by first | decide | simp) (fun _ _ h => h) (by kernel_rfl) H
theorem read_reader_beginO_fx (a : Int) (d : Int) (ws : LL) (p : Int) (en : Int) (dp : Int) (nd : Int) {x : FV} (H : read_reader_beginO_H (fun _ _ => False) (fun x' h' => x' = x ∧ h' = shH [(Ob.g 70 [(AV.fz (FV.sl 9 ws)), (AV.fz (FV.int .i64 p)), (AV.fz (FV.int .i64 en)), (AV.fz (FV.int .i64 dp)), (AV.fz (FV.int .i64 nd))])]) a d ws p en dp nd) : FnX Tryz.prog 71 [(TV.one (AV.ptr 0 0 0 70)), (TV.one (AV.fz (FV.int .i64 a))), (TV.one (AV.fz (FV.int .i64 d)))] [(Ob.g 70 [(AV.fz (FV.sl 9 ws)), (AV.fz (FV.int .i64 p)), (AV.fz (FV.int .i64 en)), (AV.fz (FV.int .i64 dp)), (AV.fz (FV.int .i64 nd))])] x :=
 FnX.by_tr (M := (modeX [] [] [70, 1000070] 1 (fun x' h' => x' = x ∧ h' = shH [(Ob.g 70 [(AV.fz (FV.sl 9 ws)), (AV.fz (FV.int .i64 p)), (AV.fz (FV.int .i64 en)), (AV.fz (FV.int .i64 dp)), (AV.fz (FV.int .i64 nd))])]))) (lv := read_reader_beginO_lv) (own := (some 1)) (F := Tryz.f71) (by kernel_rfl) (by kernel_rfl) (by first | decide | simp) (fun _ _ h => h) (by kernel_rfl) H
def read_reader_skipsO_lv : List Nat → Keep := lvOf [([0], ⟨3, 0, [], false, false⟩)]
def read_reader_skipsO_S0 (d : Int) (o : LL) (o1 : Int) (o2 : Int) (o3 : Int) (o4 : Int) : St := (St.mk [(TV.one (AV.ptr 0 0 0 70)), (TV.one (AV.fz (FV.int .i64 d))), TV.und, TV.und, TV.und, TV.und, TV.und, TV.und, TV.und, TV.und, TV.und, TV.und, TV.und, TV.und, TV.und, TV.und, TV.und, TV.und, TV.und, TV.und, TV.und, TV.und, TV.und, TV.und, TV.und, TV.und, TV.und, TV.und, TV.und, TV.und, TV.und, TV.und, TV.und, TV.und, TV.und, TV.und, TV.und, TV.und, TV.und, TV.und, TV.und, TV.und, TV.und] [(Ob.g 70 [(AV.fz (FV.sl 9 o)), (AV.fz (FV.int .i64 o1)), (AV.fz (FV.int .i64 o2)), (AV.fz (FV.int .i64 o3)), (AV.fz (FV.int .i64 o4))])])
def read_reader_skipsO_L0 (R : TV → List Ob → Prop) (RX : FV → List Ob → Prop) (d : Int) (o : LL) (o1 : Int) (o2 : Int) (o3 : Int) (o4 : Int) : Prop := LoopAt Tryz.prog (modeX [] [(41, [(Sig.mk 1 [(false, [(AT.k CK.bool)])] [(OT.g 70 [(AT.k (CK.sl 9)), (AT.k (CK.int .i64)), (AT.k (CK.int .i64)), (AT.k (CK.int .i64)), (AT.k (CK.int .i64))])] 0)]), (69, [(Sig.mk 1 [(true, [(AT.k (CK.int .i64)), (AT.k CK.str), (AT.k CK.bool), (AT.k (CK.sl 1)), (AT.k (CK.sl 6)), (AT.k (CK.int .i64))])] [(OT.g 70 [(AT.k (CK.sl 9)), (AT.k (CK.int .i64)), (AT.k (CK.int .i64)), (AT.k (CK.int .i64)), (AT.k (CK.int .i64))])] 0)])] [69] 1 RX) read_reader_skipsO_lv Tryz.f40 (some 1) R [0] (read_reader_skipsO_S0 d o o1 o2 o3 o4)
def read_reader_skipsO_R0 (R : TV → List Ob → Prop) (RX : FV → List Ob → Prop) (d : Int) (o : LL) (o1 : Int) (o2 : Int) (o3 : Int) (o4 : Int) : Prop :=
 (∃ es16 : LL, (∃ n36 : Int, (∃ n37 : Int, (∃ n38 : Int, (∃ n39 : Int, (∃ b8 : Bool, ((Fn Tryz.prog 41 [(TV.one (AV.ptr 0 0 0 70))] [(Ob.g 70 [(AV.fz (FV.sl 9 o)), (AV.fz (FV.int .i64 o1)), (AV.fz (FV.int .i64 o2)), (AV.fz (FV.int .i64 o3)), (AV.fz (FV.int .i64 o4))])] (TV.one (AV.fz (FV.bool b8))) [(Ob.g 70 [(AV.fz (FV.sl 9 es16)), (AV.fz (FV.int .i64 n36)), (AV.fz (FV.int .i64 n37)), (AV.fz (FV.int .i64 n38)), (AV.fz (FV.int .i64 n39))])]) ∧ (((b8 = true) → (((0 : Int) ≤ n36) ∧ (∃ n40 : Int, (∃ s10 : ByteArray, (∃ n41 : Int, (∃ s11 : ByteArray, (∃ b9 : Bool, (∃ es17 : LL, (∃ es18 : LL, (∃ n42 : Int, (∃ n43 : Int, (((es16)[(Int.toNat n36)]? = (some [(FV.int .i64 n40), (FV.str s10), (FV.int .i64 n41), (FV.str s11), (FV.bool b9), (FV.sl 1 es17), (FV.sl 6 es18), (FV.int .i64 n42), (FV.int .i64 n43)])) ∧ ((((n40 == 5) = true) → (((0 : Int) ≤ n36) ∧ (∃ n44 : Int, (∃ s12 : ByteArray, (∃ n45 : Int, (∃ s13 : ByteArray, (∃ b10 : Bool, (∃ es19 : LL, (∃ es20 : LL, (∃ n46 : Int, (∃ n47 : Int, (((es16)[(Int.toNat n36)]? = (some [(FV.int .i64 n44), (FV.str s12), (FV.int .i64 n45), (FV.str s13), (FV.bool b10), (FV.sl 1 es19), (FV.sl 6 es20), (FV.int .i64 n46), (FV.int .i64 n47)])) ∧ ((∃ v2 : FV, ((FnX Tryz.prog 69 [(TV.one (AV.ptr 0 0 0 70)), (TV.one (AV.fz (FV.int .i64 n47))), (TV.one (AV.fz (FV.int .i64 d)))] [(Ob.g 70 [(AV.fz (FV.sl 9 es16)), (AV.fz (FV.int .i64 (IntKind.wrap .i64 (n36 + 1)))), (AV.fz (FV.int .i64 n37)), (AV.fz (FV.int .i64 n38)), (AV.fz (FV.int .i64 n39))])] v2) ∧ (RX v2 [(Ob.g 70 [AV.und, AV.und, AV.und, AV.und, AV.und])]))) ∨ (∃ es21 : LL, (∃ n48 : Int, (∃ n49 : Int, (∃ n50 : Int, (∃ n51 : Int, (∃ n52 : Int, (∃ s14 : ByteArray, (∃ b11 : Bool, (∃ es22 : LL, (∃ es23 : LL, (∃ n53 : Int, ((Fn Tryz.prog 69 [(TV.one (AV.ptr 0 0 0 70)), (TV.one (AV.fz (FV.int .i64 n47))), (TV.one (AV.fz (FV.int .i64 d)))] [(Ob.g 70 [(AV.fz (FV.sl 9 es16)), (AV.fz (FV.int .i64 (IntKind.wrap .i64 (n36 + 1)))), (AV.fz (FV.int .i64 n37)), (AV.fz (FV.int .i64 n38)), (AV.fz (FV.int .i64 n39))])] (TV.agg [(AV.fz (FV.int .i64 n52)), (AV.fz (FV.str s14)), (AV.fz (FV.bool b11)), (AV.fz (FV.sl 1 es22)), (AV.fz (FV.sl 6 es23)), (AV.fz (FV.int .i64 n53))]) [(Ob.g 70 [(AV.fz (FV.sl 9 es21)), (AV.fz (FV.int .i64 n48)), (AV.fz (FV.int .i64 n49)), (AV.fz (FV.int .i64 n50)), (AV.fz (FV.int .i64 n51))])]) ∧ (read_reader_skipsO_L0 R RX d es21 n48 n49 n50 n51)))))))))))))))))))))))))) ∧ (((n40 == 5) = false) → (R (TV.tup []) [(Ob.g 70 [(AV.fz (FV.sl 9 es16)), (AV.fz (FV.int .i64 n36)), (AV.fz (FV.int .i64 n37)), (AV.fz (FV.int .i64 n38)), (AV.fz (FV.int .i64 n39))])]))))))))))))))) ∧ ((b8 = false) → (R (TV.tup []) [(Ob.g 70 [(AV.fz (FV.sl 9 es16)), (AV.fz (FV.int .i64 n36)), (AV.fz (FV.int .i64 n37)), (AV.fz (FV.int .i64 n38)), (AV.fz (FV.int .i64 n39))])]))))))))))
theorem read_reader_skipsO_l0 {R : TV → List Ob → Prop} {RX : FV → List Ob → Prop} {d : Int} {o : LL} {o1 : Int} {o2 : Int} {o3 : Int} {o4 : Int} (h : read_reader_skipsO_R0 R RX d o o1 o2 o3 o4) : read_reader_skipsO_L0 R RX d o o1 o2 o3 o4 :=
 LoopAt.by_tr (by kernel_rfl) (by kernel_rfl) h
def read_reader_skipsO_H (R : TV → List Ob → Prop) (RX : FV → List Ob → Prop) (d : Int) (ws : LL) (p : Int) (en : Int) (dp : Int) (nd : Int) : Prop :=
 (read_reader_skipsO_L0 R RX d ws p en dp nd)
theorem read_reader_skipsO_fn (d : Int) (ws : LL) (p : Int) (en : Int) (dp : Int) (nd : Int) {r : TV} {h : List Ob} (H : read_reader_skipsO_H (fun r' h' => r' = r ∧ Wk h' h) (fun _ _ => False) d ws p en dp nd) : Fn Tryz.prog 40 [(TV.one (AV.ptr 0 0 0 70)), (TV.one (AV.fz (FV.int .i64 d)))] [(Ob.g 70 [(AV.fz (FV.sl 9 ws)), (AV.fz (FV.int .i64 p)), (AV.fz (FV.int .i64 en)), (AV.fz (FV.int .i64 dp)), (AV.fz (FV.int .i64 nd))])] r h :=
 Fn.by_trW (M := (modeX [] [(41, [(Sig.mk 1 [(false, [(AT.k CK.bool)])] [(OT.g 70 [(AT.k (CK.sl 9)), (AT.k (CK.int .i64)), (AT.k (CK.int .i64)), (AT.k (CK.int .i64)), (AT.k (CK.int .i64))])] 0)]), (69, [(Sig.mk 1 [(true, [(AT.k (CK.int .i64)), (AT.k CK.str), (AT.k CK.bool), (AT.k (CK.sl 1)), (AT.k (CK.sl 6)), (AT.k (CK.int .i64))])] [(OT.g 70 [(AT.k (CK.sl 9)), (AT.k (CK.int .i64)), (AT.k (CK.int .i64)), (AT.k (CK.int .i64)), (AT.k (CK.int .i64))])] 0)])] [69] 1 (fun _ _ => False))) (lv := read_reader_skipsO_lv) (own := (some 1)) (F := Tryz.f40) (by kernel_rfl) (by kernel_rfl) (by first | decide | simp) (fun _ _ h => h) (by kernel_rfl) H
theorem read_reader_skipsO_fx (d : Int) (ws : LL) (p : Int) (en : Int) (dp : Int) (nd : Int) {x : FV} (H : read_reader_skipsO_H (fun _ _ => False) (fun x' h' => x' = x ∧ h' = shH [(Ob.g 70 [(AV.fz (FV.sl 9 ws)), (AV.fz (FV.int .i64 p)), (AV.fz (FV.int .i64 en)), (AV.fz (FV.int .i64 dp)), (AV.fz (FV.int .i64 nd))])]) d ws p en dp nd) : FnX Tryz.prog 40 [(TV.one (AV.ptr 0 0 0 70)), (TV.one (AV.fz (FV.int .i64 d)))] [(Ob.g 70 [(AV.fz (FV.sl 9 ws)), (AV.fz (FV.int .i64 p)), (AV.fz (FV.int .i64 en)), (AV.fz (FV.int .i64 dp)), (AV.fz (FV.int .i64 nd))])] x :=
 FnX.by_tr (M := (modeX [] [(41, [(Sig.mk 1 [(false, [(AT.k CK.bool)])] [(OT.g 70 [(AT.k (CK.sl 9)), (AT.k (CK.int .i64)), (AT.k (CK.int .i64)), (AT.k (CK.int .i64)), (AT.k (CK.int .i64))])] 0)]), (69, [(Sig.mk 1 [(true, [(AT.k (CK.int .i64)), (AT.k CK.str), (AT.k CK.bool), (AT.k (CK.sl 1)), (AT.k (CK.sl 6)), (AT.k (CK.int .i64))])] [(OT.g 70 [(AT.k (CK.sl 9)), (AT.k (CK.int .i64)), (AT.k (CK.int .i64)), (AT.k (CK.int .i64)), (AT.k (CK.int .i64))])] 0)])] [69] 1 (fun x' h' => x' = x ∧ h' = shH [(Ob.g 70 [(AV.fz (FV.sl 9 ws)), (AV.fz (FV.int .i64 p)), (AV.fz (FV.int .i64 en)), (AV.fz (FV.int .i64 dp)), (AV.fz (FV.int .i64 nd))])]))) (lv := read_reader_skipsO_lv) (own := (some 1)) (F := Tryz.f40) (by kernel_rfl) (by kernel_rfl) (by first | decide | simp) (fun _ _ h => h) (by kernel_rfl) H
def read_reader_behindO_lv : List Nat → Keep := lvOf []
def read_reader_behindO_H (R : TV → List Ob → Prop) (RX : FV → List Ob → Prop) (a : Int) (d : Int) (ws : LL) (p : Int) (en : Int) (dp : Int) (nd : Int) : Prop :=
 ((∃ v5 : FV, ((FnX Tryz.prog 40 [(TV.one (AV.ptr 0 0 0 70)), (TV.one (AV.fz (FV.int .i64 d)))] [(Ob.g 70 [(AV.fz (FV.sl 9 ws)), (AV.fz (FV.int .i64 p)), (AV.fz (FV.int .i64 en)), (AV.fz (FV.int .i64 dp)), (AV.fz (FV.int .i64 nd))])] v5) ∧ (RX v5 [(Ob.g 70 [AV.und, AV.und, AV.und, AV.und, AV.und])]))) ∨ (∃ es11 : LL, (∃ n26 : Int, (∃ n27 : Int, (∃ n28 : Int, (∃ n29 : Int, ((Fn Tryz.prog 40 [(TV.one (AV.ptr 0 0 0 70)), (TV.one (AV.fz (FV.int .i64 d)))] [(Ob.g 70 [(AV.fz (FV.sl 9 ws)), (AV.fz (FV.int .i64 p)), (AV.fz (FV.int .i64 en)), (AV.fz (FV.int .i64 dp)), (AV.fz (FV.int .i64 nd))])] (TV.tup []) [(Ob.g 70 [(AV.fz (FV.sl 9 es11)), (AV.fz (FV.int .i64 n26)), (AV.fz (FV.int .i64 n27)), (AV.fz (FV.int .i64 n28)), (AV.fz (FV.int .i64 n29))])]) ∧ (∃ es12 : LL, (∃ n30 : Int, (∃ n31 : Int, (∃ n32 : Int, (∃ n33 : Int, (∃ b5 : Bool, ((Fn Tryz.prog 41 [(TV.one (AV.ptr 0 0 0 70))] [(Ob.g 70 [(AV.fz (FV.sl 9 es11)), (AV.fz (FV.int .i64 n26)), (AV.fz (FV.int .i64 n27)), (AV.fz (FV.int .i64 n28)), (AV.fz (FV.int .i64 n29))])] (TV.one (AV.fz (FV.bool b5))) [(Ob.g 70 [(AV.fz (FV.sl 9 es12)), (AV.fz (FV.int .i64 n30)), (AV.fz (FV.int .i64 n31)), (AV.fz (FV.int .i64 n32)), (AV.fz (FV.int .i64 n33))])]) ∧ ((((Bool.not b5) = true) → (∃ v6 : FV, ((FnX Tryz.prog 70 [(TV.one (AV.fz (FV.int .i64 n31))), (TV.one (AV.fz (FV.int .i64 3)))] [] v6) ∧ (RX v6 [(Ob.g 70 [AV.und, AV.und, AV.und, AV.und, AV.und])])))) ∧ (((Bool.not b5) = false) → (((0 : Int) ≤ n30) ∧ (∃ n34 : Int, (∃ s7 : ByteArray, (∃ n35 : Int, (∃ s8 : ByteArray, (∃ b6 : Bool, (∃ es13 : LL, (∃ es14 : LL, (∃ n36 : Int, (∃ n37 : Int, (((es12)[(Int.toNat n30)]? = (some [(FV.int .i64 n34), (FV.str s7), (FV.int .i64 n35), (FV.str s8), (FV.bool b6), (FV.sl 1 es13), (FV.sl 6 es14), (FV.int .i64 n36), (FV.int .i64 n37)])) ∧ ((((n34 == 2) = true) → (((0 : Int) ≤ n30) ∧ (∃ n38 : Int, (∃ s9 : ByteArray, (∃ n39 : Int, (∃ s10 : ByteArray, (∃ b7 : Bool, (∃ es15 : LL, (∃ es16 : LL, (∃ n40 : Int, (∃ n41 : Int, (((es12)[(Int.toNat n30)]? = (some [(FV.int .i64 n38), (FV.str s9), (FV.int .i64 n39), (FV.str s10), (FV.bool b7), (FV.sl 1 es15), (FV.sl 6 es16), (FV.int .i64 n40), (FV.int .i64 n41)])) ∧ (∃ v7 : FV, ((FnX Tryz.prog 70 [(TV.one (AV.fz (FV.int .i64 n41))), (TV.one (AV.fz (FV.int .i64 3)))] [] v7) ∧ (RX v7 [(Ob.g 70 [AV.und, AV.und, AV.und, AV.und, AV.und])]))))))))))))))) ∧ (((n34 == 2) = false) → ((((n34 == 4) = true) → (((0 : Int) ≤ n30) ∧ (∃ n42 : Int, (∃ s11 : ByteArray, (∃ n43 : Int, (∃ s12 : ByteArray, (∃ b8 : Bool, (∃ es17 : LL, (∃ es18 : LL, (∃ n44 : Int, (∃ n45 : Int, (((es12)[(Int.toNat n30)]? = (some [(FV.int .i64 n42), (FV.str s11), (FV.int .i64 n43), (FV.str s12), (FV.bool b8), (FV.sl 1 es17), (FV.sl 6 es18), (FV.int .i64 n44), (FV.int .i64 n45)])) ∧ (∃ v8 : FV, ((FnX Tryz.prog 70 [(TV.one (AV.fz (FV.int .i64 n45))), (TV.one (AV.fz (FV.int .i64 3)))] [] v8) ∧ (RX v8 [(Ob.g 70 [AV.und, AV.und, AV.und, AV.und, AV.und])]))))))))))))))) ∧ (((n34 == 4) = false) → ((∃ v9 : FV, ((FnX Tryz.prog 42 [(TV.one (AV.ptr 0 0 0 70)), (TV.one (AV.fz (FV.int .i64 d)))] [(Ob.g 70 [(AV.fz (FV.sl 9 es12)), (AV.fz (FV.int .i64 n30)), (AV.fz (FV.int .i64 n31)), (AV.fz (FV.int .i64 n32)), (AV.fz (FV.int .i64 n33))])] v9) ∧ (RX v9 [(Ob.g 70 [AV.und, AV.und, AV.und, AV.und, AV.und])]))) ∨ (∃ es19 : LL, (∃ n46 : Int, (∃ n47 : Int, (∃ n48 : Int, (∃ n49 : Int, (∃ n50 : Int, (∃ s13 : ByteArray, (∃ b9 : Bool, (∃ es20 : LL, (∃ es21 : LL, (∃ n51 : Int, ((Fn Tryz.prog 42 [(TV.one (AV.ptr 0 0 0 70)), (TV.one (AV.fz (FV.int .i64 d)))] [(Ob.g 70 [(AV.fz (FV.sl 9 es12)), (AV.fz (FV.int .i64 n30)), (AV.fz (FV.int .i64 n31)), (AV.fz (FV.int .i64 n32)), (AV.fz (FV.int .i64 n33))])] (TV.agg [(AV.fz (FV.int .i64 n50)), (AV.fz (FV.str s13)), (AV.fz (FV.bool b9)), (AV.fz (FV.sl 1 es20)), (AV.fz (FV.sl 6 es21)), (AV.fz (FV.int .i64 n51))]) [(Ob.g 70 [(AV.fz (FV.sl 9 es19)), (AV.fz (FV.int .i64 n46)), (AV.fz (FV.int .i64 n47)), (AV.fz (FV.int .i64 n48)), (AV.fz (FV.int .i64 n49))])]) ∧ (R (TV.agg [(AV.fz (FV.int .i64 n50)), (AV.fz (FV.str s13)), (AV.fz (FV.bool b9)), (AV.fz (FV.sl 1 es20)), (AV.fz (FV.sl 6 es21)), (AV.fz (FV.int .i64 n51))]) [(Ob.g 70 [(AV.fz (FV.sl 9 es19)), (AV.fz (FV.int .i64 n46)), (AV.fz (FV.int .i64 n47)), (AV.fz (FV.int .i64 n48)), (AV.fz (FV.int .i64 n49))])])))))))))))))))))))))))))))))))))))))))))))))
theorem read_reader_behindO_fn (a : Int) (d : Int) (ws : LL) (p : Int) (en : Int) (dp : Int) (nd : Int) {r : TV} {h : List Ob} (H : read_reader_behindO_H (fun r' h' => r' = r ∧ Wk h' h) (fun _ _ => False) a d ws p en dp nd) : Fn Tryz.prog 69 [(TV.one (AV.ptr 0 0 0 70)), (TV.one (AV.fz (FV.int .i64 a))), (TV.one (AV.fz (FV.int .i64 d)))] [(Ob.g 70 [(AV.fz (FV.sl 9 ws)), (AV.fz (FV.int .i64 p)), (AV.fz (FV.int .i64 en)), (AV.fz (FV.int .i64 dp)), (AV.fz (FV.int .i64 nd))])] r h :=
 Fn.by_trW (M := (modeX [] [(41, [(Sig.mk 1 [(false, [(AT.k CK.bool)])] [(OT.g 70 [(AT.k (CK.sl 9)), (AT.k (CK.int .i64)), (AT.k (CK.int .i64)), (AT.k (CK.int .i64)), (AT.k (CK.int .i64))])] 0)]), (40, [(Sig.mk 1 [] [(OT.g 70 [(AT.k (CK.sl 9)), (AT.k (CK.int .i64)), (AT.k (CK.int .i64)), (AT.k (CK.int .i64)), (AT.k (CK.int .i64))])] 0)]), (42, [(Sig.mk 1 [(true, [(AT.k (CK.int .i64)), (AT.k CK.str), (AT.k CK.bool), (AT.k (CK.sl 1)), (AT.k (CK.sl 6)), (AT.k (CK.int .i64))])] [(OT.g 70 [(AT.k (CK.sl 9)), (AT.k (CK.int .i64)), (AT.k (CK.int .i64)), (AT.k (CK.int .i64)), (AT.k (CK.int .i64))])] 0)])] [70, 40, 42, 1000070] 1 (fun _ _ => False))) (lv := read_reader_behindO_lv) (own := (some 1)) (F := Tryz.f69) (by kernel_rfl) (by kernel_rfl) (by first | decide | simp) (fun _ _ h => h) (by kernel_rfl) H
theorem read_reader_behindO_fx (a : Int) (d : Int) (ws : LL) (p : Int) (en : Int) (dp : Int) (nd : Int) {x : FV} (H : read_reader_behindO_H (fun _ _ => False) (fun x' h' => x' = x ∧ h' = shH [(Ob.g 70 [(AV.fz (FV.sl 9 ws)), (AV.fz (FV.int .i64 p)), (AV.fz (FV.int .i64 en)), (AV.fz (FV.int .i64 dp)), (AV.fz (FV.int .i64 nd))])]) a d ws p en dp nd) : FnX Tryz.prog 69 [(TV.one (AV.ptr 0 0 0 70)), (TV.one (AV.fz (FV.int .i64 a))), (TV.one (AV.fz (FV.int .i64 d)))] [(Ob.g 70 [(AV.fz (FV.sl 9 ws)), (AV.fz (FV.int .i64 p)), (AV.fz (FV.int .i64 en)), (AV.fz (FV.int .i64 dp)), (AV.fz (FV.int .i64 nd))])] x :=
 FnX.by_tr (M := (modeX [] [(41, [(Sig.mk 1 [(false, [(AT.k CK.bool)])] [(OT.g 70 [(AT.k (CK.sl 9)), (AT.k (CK.int .i64)), (AT.k (CK.int .i64)), (AT.k (CK.int .i64)), (AT.k (CK.int .i64))])] 0)]), (40, [(Sig.mk 1 [] [(OT.g 70 [(AT.k (CK.sl 9)), (AT.k (CK.int .i64)), (AT.k (CK.int .i64)), (AT.k (CK.int .i64)), (AT.k (CK.int .i64))])] 0)]), (42, [(Sig.mk 1 [(true, [(AT.k (CK.int .i64)), (AT.k CK.str), (AT.k CK.bool), (AT.k (CK.sl 1)), (AT.k (CK.sl 6)), (AT.k (CK.int .i64))])] [(OT.g 70 [(AT.k (CK.sl 9)), (AT.k (CK.int .i64)), (AT.k (CK.int .i64)), (AT.k (CK.int .i64)), (AT.k (CK.int .i64))])] 0)])] [70, 40, 42, 1000070] 1 (fun x' h' => x' = x ∧ h' = shH [(Ob.g 70 [(AV.fz (FV.sl 9 ws)), (AV.fz (FV.int .i64 p)), (AV.fz (FV.int .i64 en)), (AV.fz (FV.int .i64 dp)), (AV.fz (FV.int .i64 nd))])]))) (lv := read_reader_behindO_lv) (own := (some 1)) (F := Tryz.f69) (by kernel_rfl) (by kernel_rfl) (by first | decide | simp) (fun _ _ h => h) (by kernel_rfl) H
def read_reader_datumO_lv : List Nat → Keep := lvOf []
def read_reader_datumO_H (R : TV → List Ob → Prop) (RX : FV → List Ob → Prop) (d : Int) (ws : LL) (p : Int) (en : Int) (dp : Int) (nd : Int) : Prop :=
 (((0 : Int) ≤ p) ∧ (∃ n38 : Int, (∃ s5 : ByteArray, (∃ n39 : Int, (∃ s6 : ByteArray, (∃ b4 : Bool, (∃ es19 : LL, (∃ es20 : LL, (∃ n40 : Int, (∃ n41 : Int, (((ws)[(Int.toNat p)]? = (some [(FV.int .i64 n38), (FV.str s5), (FV.int .i64 n39), (FV.str s6), (FV.bool b4), (FV.sl 1 es19), (FV.sl 6 es20), (FV.int .i64 n40), (FV.int .i64 n41)])) ∧ ((((n38 == 2) = true) → (∃ v7 : FV, ((FnX Tryz.prog 70 [(TV.one (AV.fz (FV.int .i64 n41))), (TV.one (AV.fz (FV.int .i64 3)))] [] v7) ∧ (RX v7 [(Ob.g 70 [AV.und, AV.und, AV.und, AV.und, AV.und])])))) ∧ (((n38 == 2) = false) → ((((n38 == 4) = true) → (∃ v8 : FV, ((FnX Tryz.prog 70 [(TV.one (AV.fz (FV.int .i64 n41))), (TV.one (AV.fz (FV.int .i64 3)))] [] v8) ∧ (RX v8 [(Ob.g 70 [AV.und, AV.und, AV.und, AV.und, AV.und])])))) ∧ (((n38 == 4) = false) → ((∃ v9 : FV, ((FnX Tryz.prog 71 [(TV.one (AV.ptr 0 0 0 70)), (TV.one (AV.fz (FV.int .i64 n41))), (TV.one (AV.fz (FV.int .i64 d)))] [(Ob.g 70 [(AV.fz (FV.sl 9 ws)), (AV.fz (FV.int .i64 p)), (AV.fz (FV.int .i64 en)), (AV.fz (FV.int .i64 dp)), (AV.fz (FV.int .i64 nd))])] v9) ∧ (RX v9 [(Ob.g 70 [AV.und, AV.und, AV.und, AV.und, AV.und])]))) ∨ (∃ es21 : LL, (∃ n42 : Int, (∃ n43 : Int, (∃ n44 : Int, (∃ n45 : Int, ((Fn Tryz.prog 71 [(TV.one (AV.ptr 0 0 0 70)), (TV.one (AV.fz (FV.int .i64 n41))), (TV.one (AV.fz (FV.int .i64 d)))] [(Ob.g 70 [(AV.fz (FV.sl 9 ws)), (AV.fz (FV.int .i64 p)), (AV.fz (FV.int .i64 en)), (AV.fz (FV.int .i64 dp)), (AV.fz (FV.int .i64 nd))])] (TV.tup []) [(Ob.g 70 [(AV.fz (FV.sl 9 es21)), (AV.fz (FV.int .i64 n42)), (AV.fz (FV.int .i64 n43)), (AV.fz (FV.int .i64 n44)), (AV.fz (FV.int .i64 n45))])]) ∧ ((((n38 == 7) = true) → (R (TV.agg [(AV.fz (FV.int .i64 n39)), (AV.fz (FV.str s6)), (AV.fz (FV.bool b4)), (AV.fz (FV.sl 1 es19)), (AV.fz (FV.sl 6 es20)), (AV.fz (FV.int .i64 n40))]) [(Ob.g 70 [(AV.fz (FV.sl 9 es21)), (AV.fz (FV.int .i64 (IntKind.wrap .i64 (n42 + 1)))), (AV.fz (FV.int .i64 n43)), (AV.fz (FV.int .i64 n44)), (AV.fz (FV.int .i64 n45))])])) ∧ (((n38 == 7) = false) → ((((n38 == 6) = true) → ((∃ v10 : FV, ((FnX Tryz.prog 71 [(TV.one (AV.ptr 0 0 0 70)), (TV.one (AV.fz (FV.int .i64 n41))), (TV.one (AV.fz (FV.int .i64 (IntKind.wrap .i64 (d + 1)))))] [(Ob.g 70 [(AV.fz (FV.sl 9 es21)), (AV.fz (FV.int .i64 (IntKind.wrap .i64 (n42 + 1)))), (AV.fz (FV.int .i64 n43)), (AV.fz (FV.int .i64 n44)), (AV.fz (FV.int .i64 n45))])] v10) ∧ (RX v10 [(Ob.g 70 [AV.und, AV.und, AV.und, AV.und, AV.und])]))) ∨ (∃ es22 : LL, (∃ n46 : Int, (∃ n47 : Int, (∃ n48 : Int, (∃ n49 : Int, ((Fn Tryz.prog 71 [(TV.one (AV.ptr 0 0 0 70)), (TV.one (AV.fz (FV.int .i64 n41))), (TV.one (AV.fz (FV.int .i64 (IntKind.wrap .i64 (d + 1)))))] [(Ob.g 70 [(AV.fz (FV.sl 9 es21)), (AV.fz (FV.int .i64 (IntKind.wrap .i64 (n42 + 1)))), (AV.fz (FV.int .i64 n43)), (AV.fz (FV.int .i64 n44)), (AV.fz (FV.int .i64 n45))])] (TV.tup []) [(Ob.g 70 [(AV.fz (FV.sl 9 es22)), (AV.fz (FV.int .i64 n46)), (AV.fz (FV.int .i64 n47)), (AV.fz (FV.int .i64 n48)), (AV.fz (FV.int .i64 n49))])]) ∧ ((∃ v11 : FV, ((FnX Tryz.prog 69 [(TV.one (AV.ptr 0 0 0 70)), (TV.one (AV.fz (FV.int .i64 n41))), (TV.one (AV.fz (FV.int .i64 (IntKind.wrap .i64 (d + 1)))))] [(Ob.g 70 [(AV.fz (FV.sl 9 es22)), (AV.fz (FV.int .i64 n46)), (AV.fz (FV.int .i64 n47)), (AV.fz (FV.int .i64 n48)), (AV.fz (FV.int .i64 n49))])] v11) ∧ (RX v11 [(Ob.g 70 [AV.und, AV.und, AV.und, AV.und, AV.und])]))) ∨ (∃ es23 : LL, (∃ n50 : Int, (∃ n51 : Int, (∃ n52 : Int, (∃ n53 : Int, (∃ n54 : Int, (∃ s7 : ByteArray, (∃ b5 : Bool, (∃ es24 : LL, (∃ es25 : LL, (∃ n55 : Int, ((Fn Tryz.prog 69 [(TV.one (AV.ptr 0 0 0 70)), (TV.one (AV.fz (FV.int .i64 n41))), (TV.one (AV.fz (FV.int .i64 (IntKind.wrap .i64 (d + 1)))))] [(Ob.g 70 [(AV.fz (FV.sl 9 es22)), (AV.fz (FV.int .i64 n46)), (AV.fz (FV.int .i64 n47)), (AV.fz (FV.int .i64 n48)), (AV.fz (FV.int .i64 n49))])] (TV.agg [(AV.fz (FV.int .i64 n54)), (AV.fz (FV.str s7)), (AV.fz (FV.bool b5)), (AV.fz (FV.sl 1 es24)), (AV.fz (FV.sl 6 es25)), (AV.fz (FV.int .i64 n55))]) [(Ob.g 70 [(AV.fz (FV.sl 9 es23)), (AV.fz (FV.int .i64 n50)), (AV.fz (FV.int .i64 n51)), (AV.fz (FV.int .i64 n52)), (AV.fz (FV.int .i64 n53))])]) ∧ (R (TV.agg [(AV.fz (FV.int .i64 1)), (AV.fz (FV.str (ByteArray.mk #[]))), (AV.fz (FV.bool false)), (AV.ofl 1 1), (AV.ofl 6 2), (AV.fz (FV.int .i64 n41))]) [(Ob.g 70 [(AV.fz (FV.sl 9 es23)), (AV.fz (FV.int .i64 n50)), (AV.fz (FV.int .i64 n51)), (AV.fz (FV.int .i64 n52)), (AV.fz (FV.int .i64 n53))]), (Ob.f 0 1 ([] : LL)), (Ob.f 33 6 [[(FV.int .i64 4), (FV.str s5), (FV.bool false), (FV.sl 1 ([] : LL)), (FV.sl 6 ([] : LL)), (FV.int .i64 n41)], [(FV.int .i64 n54), (FV.str s7), (FV.bool b5), (FV.sl 1 es24), (FV.sl 6 es25), (FV.int .i64 n55)]])])))))))))))))))))))))) ∧ (((n38 == 6) = false) → ((((n38 == 3) = true) → ((∃ v12 : FV, ((FnX Tryz.prog 72 [(TV.one (AV.ptr 0 0 0 70)), (TV.one (AV.fz (FV.int .i64 (IntKind.wrap .i64 (d + 1))))), (TV.one (AV.fz (FV.bool true)))] [(Ob.g 70 [(AV.fz (FV.sl 9 es21)), (AV.fz (FV.int .i64 (IntKind.wrap .i64 (n42 + 1)))), (AV.fz (FV.int .i64 n43)), (AV.fz (FV.int .i64 n44)), (AV.fz (FV.int .i64 n45))])] v12) ∧ (RX v12 [(Ob.g 70 [AV.und, AV.und, AV.und, AV.und, AV.und])]))) ∨ ((∃ es26 : LL, (∃ n56 : Int, (∃ n57 : Int, (∃ n58 : Int, (∃ n59 : Int, (∃ es27 : LL, ((Fn Tryz.prog 72 [(TV.one (AV.ptr 0 0 0 70)), (TV.one (AV.fz (FV.int .i64 (IntKind.wrap .i64 (d + 1))))), (TV.one (AV.fz (FV.bool true)))] [(Ob.g 70 [(AV.fz (FV.sl 9 es21)), (AV.fz (FV.int .i64 (IntKind.wrap .i64 (n42 + 1)))), (AV.fz (FV.int .i64 n43)), (AV.fz (FV.int .i64 n44)), (AV.fz (FV.int .i64 n45))])] (TV.tup [(false, [(AV.ofl 6 1)]), (false, [(AV.fz FV.nilp)])]) [(Ob.g 70 [(AV.fz (FV.sl 9 es26)), (AV.fz (FV.int .i64 n56)), (AV.fz (FV.int .i64 n57)), (AV.fz (FV.int .i64 n58)), (AV.fz (FV.int .i64 n59))]), (Ob.f 0 6 es27)]) ∧ (R (TV.agg [(AV.fz (FV.int .i64 3)), (AV.fz (FV.str (ByteArray.mk #[]))), (AV.fz (FV.bool false)), (AV.ofl 1 1), (AV.ofl 6 2), (AV.fz (FV.int .i64 n41))]) [(Ob.g 70 [(AV.fz (FV.sl 9 es26)), (AV.fz (FV.int .i64 n56)), (AV.fz (FV.int .i64 n57)), (AV.fz (FV.int .i64 n58)), (AV.fz (FV.int .i64 n59))]), (Ob.f 0 1 ([] : LL)), (Ob.f 0 6 es27)])))))))) ∨ (∃ es28 : LL, (∃ n60 : Int, (∃ n61 : Int, (∃ n62 : Int, (∃ n63 : Int, (∃ es29 : LL, (∃ n64 : Int, (∃ s8 : ByteArray, (∃ b6 : Bool, (∃ es30 : LL, (∃ es31 : LL, (∃ n65 : Int, ((Fn Tryz.prog 72 [(TV.one (AV.ptr 0 0 0 70)), (TV.one (AV.fz (FV.int .i64 (IntKind.wrap .i64 (d + 1))))), (TV.one (AV.fz (FV.bool true)))] [(Ob.g 70 [(AV.fz (FV.sl 9 es21)), (AV.fz (FV.int .i64 (IntKind.wrap .i64 (n42 + 1)))), (AV.fz (FV.int .i64 n43)), (AV.fz (FV.int .i64 n44)), (AV.fz (FV.int .i64 n45))])] (TV.tup [(false, [(AV.ofl 6 1)]), (false, [(AV.ptr 2 0 0 0)])]) [(Ob.g 70 [(AV.fz (FV.sl 9 es28)), (AV.fz (FV.int .i64 n60)), (AV.fz (FV.int .i64 n61)), (AV.fz (FV.int .i64 n62)), (AV.fz (FV.int .i64 n63))]), (Ob.f 0 6 es29), (Ob.g 33 [(AV.fz (FV.int .i64 n64)), (AV.fz (FV.str s8)), (AV.fz (FV.bool b6)), (AV.fz (FV.sl 1 es30)), (AV.fz (FV.sl 6 es31)), (AV.fz (FV.int .i64 n65))])]) ∧ (R (TV.agg [(AV.fz (FV.int .i64 3)), (AV.fz (FV.str (ByteArray.mk #[]))), (AV.fz (FV.bool false)), (AV.ofl 1 1), (AV.ofl 6 2), (AV.fz (FV.int .i64 n41))]) [(Ob.g 70 [(AV.fz (FV.sl 9 es28)), (AV.fz (FV.int .i64 n60)), (AV.fz (FV.int .i64 n61)), (AV.fz (FV.int .i64 n62)), (AV.fz (FV.int .i64 n63))]), (Ob.f 0 1 ([] : LL)), (Ob.f 0 6 es29)]))))))))))))))))) ∧ (((n38 == 3) = false) → ((∃ v13 : FV, ((FnX Tryz.prog 72 [(TV.one (AV.ptr 0 0 0 70)), (TV.one (AV.fz (FV.int .i64 (IntKind.wrap .i64 (d + 1))))), (TV.one (AV.fz (FV.bool false)))] [(Ob.g 70 [(AV.fz (FV.sl 9 es21)), (AV.fz (FV.int .i64 (IntKind.wrap .i64 (n42 + 1)))), (AV.fz (FV.int .i64 n43)), (AV.fz (FV.int .i64 n44)), (AV.fz (FV.int .i64 n45))])] v13) ∧ (RX v13 [(Ob.g 70 [AV.und, AV.und, AV.und, AV.und, AV.und])]))) ∨ ((∃ es32 : LL, (∃ n66 : Int, (∃ n67 : Int, (∃ n68 : Int, (∃ n69 : Int, (∃ es33 : LL, ((Fn Tryz.prog 72 [(TV.one (AV.ptr 0 0 0 70)), (TV.one (AV.fz (FV.int .i64 (IntKind.wrap .i64 (d + 1))))), (TV.one (AV.fz (FV.bool false)))] [(Ob.g 70 [(AV.fz (FV.sl 9 es21)), (AV.fz (FV.int .i64 (IntKind.wrap .i64 (n42 + 1)))), (AV.fz (FV.int .i64 n43)), (AV.fz (FV.int .i64 n44)), (AV.fz (FV.int .i64 n45))])] (TV.tup [(false, [(AV.ofl 6 1)]), (false, [(AV.fz FV.nilp)])]) [(Ob.g 70 [(AV.fz (FV.sl 9 es32)), (AV.fz (FV.int .i64 n66)), (AV.fz (FV.int .i64 n67)), (AV.fz (FV.int .i64 n68)), (AV.fz (FV.int .i64 n69))]), (Ob.f 0 6 es33)]) ∧ (((true = true) → (R (TV.agg [(AV.fz (FV.int .i64 1)), (AV.fz (FV.str (ByteArray.mk #[]))), (AV.fz (FV.bool false)), (AV.ofl 1 1), (AV.ofl 6 2), (AV.fz (FV.int .i64 n41))]) [(Ob.g 70 [(AV.fz (FV.sl 9 es32)), (AV.fz (FV.int .i64 n66)), (AV.fz (FV.int .i64 n67)), (AV.fz (FV.int .i64 n68)), (AV.fz (FV.int .i64 n69))]), (Ob.f 0 1 ([] : LL)), (Ob.f 0 6 es33)])) ∧ ((true = false) → False))))))))) ∨ (∃ es34 : LL, (∃ n70 : Int, (∃ n71 : Int, (∃ n72 : Int, (∃ n73 : Int, (∃ es35 : LL, (∃ n74 : Int, (∃ s9 : ByteArray, (∃ b7 : Bool, (∃ es36 : LL, (∃ es37 : LL, (∃ n75 : Int, ((Fn Tryz.prog 72 [(TV.one (AV.ptr 0 0 0 70)), (TV.one (AV.fz (FV.int .i64 (IntKind.wrap .i64 (d + 1))))), (TV.one (AV.fz (FV.bool false)))] [(Ob.g 70 [(AV.fz (FV.sl 9 es21)), (AV.fz (FV.int .i64 (IntKind.wrap .i64 (n42 + 1)))), (AV.fz (FV.int .i64 n43)), (AV.fz (FV.int .i64 n44)), (AV.fz (FV.int .i64 n45))])] (TV.tup [(false, [(AV.ofl 6 1)]), (false, [(AV.ptr 2 0 0 0)])]) [(Ob.g 70 [(AV.fz (FV.sl 9 es34)), (AV.fz (FV.int .i64 n70)), (AV.fz (FV.int .i64 n71)), (AV.fz (FV.int .i64 n72)), (AV.fz (FV.int .i64 n73))]), (Ob.f 0 6 es35), (Ob.g 33 [(AV.fz (FV.int .i64 n74)), (AV.fz (FV.str s9)), (AV.fz (FV.bool b7)), (AV.fz (FV.sl 1 es36)), (AV.fz (FV.sl 6 es37)), (AV.fz (FV.int .i64 n75))])]) ∧ (((false = true) → (R (TV.agg [(AV.fz (FV.int .i64 1)), (AV.fz (FV.str (ByteArray.mk #[]))), (AV.fz (FV.bool false)), (AV.ofl 1 1), (AV.ofl 6 2), (AV.fz (FV.int .i64 n41))]) [(Ob.g 70 [(AV.fz (FV.sl 9 es34)), (AV.fz (FV.int .i64 n70)), (AV.fz (FV.int .i64 n71)), (AV.fz (FV.int .i64 n72)), (AV.fz (FV.int .i64 n73))]), (Ob.f 0 1 ([] : LL)), (Ob.f 0 6 es35)])) ∧ ((false = false) → ((((n74 == 1) = true) → (((((List.length es35) + (List.length es37)) * 88) ≤ 220000000000000) ∧ (R (TV.agg [(AV.fz (FV.int .i64 n74)), (AV.fz (FV.str (ByteArray.mk #[]))), (AV.fz (FV.bool false)), (AV.ofl 1 1), (AV.ofl 6 2), (AV.fz (FV.int .i64 n41))]) [(Ob.g 70 [(AV.fz (FV.sl 9 es34)), (AV.fz (FV.int .i64 n70)), (AV.fz (FV.int .i64 n71)), (AV.fz (FV.int .i64 n72)), (AV.fz (FV.int .i64 n73))]), (Ob.f 0 1 ([] : LL)), (Ob.f 0 6 (es35 ++ es37))]))) ∧ (((n74 == 1) = false) → ((((n74 == 2) = true) → (((((List.length es35) + (List.length es37)) * 88) ≤ 220000000000000) ∧ (R (TV.agg [(AV.fz (FV.int .i64 n74)), (AV.fz (FV.str (ByteArray.mk #[]))), (AV.fz (FV.bool false)), (AV.ofl 1 1), (AV.ofl 6 2), (AV.fz (FV.int .i64 n41))]) [(Ob.g 70 [(AV.fz (FV.sl 9 es34)), (AV.fz (FV.int .i64 n70)), (AV.fz (FV.int .i64 n71)), (AV.fz (FV.int .i64 n72)), (AV.fz (FV.int .i64 n73))]), (Ob.f 0 1 ([] : LL)), (Ob.f 0 6 (es35 ++ es37))]))) ∧ (((n74 == 2) = false) → (((((List.length es35) + (List.length [[(FV.int .i64 n74), (FV.str s9), (FV.bool b7), (FV.sl 1 es36), (FV.sl 6 es37), (FV.int .i64 n75)]])) * 88) ≤ 220000000000000) ∧ (R (TV.agg [(AV.fz (FV.int .i64 2)), (AV.fz (FV.str (ByteArray.mk #[]))), (AV.fz (FV.bool false)), (AV.ofl 1 1), (AV.ofl 6 2), (AV.fz (FV.int .i64 n41))]) [(Ob.g 70 [(AV.fz (FV.sl 9 es34)), (AV.fz (FV.int .i64 n70)), (AV.fz (FV.int .i64 n71)), (AV.fz (FV.int .i64 n72)), (AV.fz (FV.int .i64 n73))]), (Ob.f 0 1 ([] : LL)), (Ob.f 0 6 (es35 ++ [[(FV.int .i64 n74), (FV.str s9), (FV.bool b7), (FV.sl 1 es36), (FV.sl 6 es37), (FV.int .i64 n75)]]))])))))))))))))))))))))))))))))))))))))))))))))))))))
theorem read_reader_datumO_fc (d : Int) (ws : LL) (p : Int) (en : Int) (dp : Int) (nd : Int) {r : TV} {h : List Ob} (H : read_reader_datumO_H (fun r' h' => Cool 1 r' h' r h) (fun _ _ => False) d ws p en dp nd) : Fn Tryz.prog 42 [(TV.one (AV.ptr 0 0 0 70)), (TV.one (AV.fz (FV.int .i64 d)))] [(Ob.g 70 [(AV.fz (FV.sl 9 ws)), (AV.fz (FV.int .i64 p)), (AV.fz (FV.int .i64 en)), (AV.fz (FV.int .i64 dp)), (AV.fz (FV.int .i64 nd))])] r h :=
 Fn.by_trC (M := (modeX [] [(71, [(Sig.mk 1 [] [(OT.g 70 [(AT.k (CK.sl 9)), (AT.k (CK.int .i64)), (AT.k (CK.int .i64)), (AT.k (CK.int .i64)), (AT.k (CK.int .i64))])] 0)]), (69, [(Sig.mk 1 [(true, [(AT.k (CK.int .i64)), (AT.k CK.str), (AT.k CK.bool), (AT.k (CK.sl 1)), (AT.k (CK.sl 6)), (AT.k (CK.int .i64))])] [(OT.g 70 [(AT.k (CK.sl 9)), (AT.k (CK.int .i64)), (AT.k (CK.int .i64)), (AT.k (CK.int .i64)), (AT.k (CK.int .i64))])] 0)]), (72, [(Sig.mk 1 [(false, [(AT.a (AV.ofl 6 1))]), (false, [(AT.a (AV.fz FV.nilp))])] [(OT.g 70 [(AT.k (CK.sl 9)), (AT.k (CK.int .i64)), (AT.k (CK.int .i64)), (AT.k (CK.int .i64)), (AT.k (CK.int .i64))]), (OT.f 0 6)] 0), (Sig.mk 1 [(false, [(AT.a (AV.ofl 6 1))]), (false, [(AT.a (AV.ptr 2 0 0 0))])] [(OT.g 70 [(AT.k (CK.sl 9)), (AT.k (CK.int .i64)), (AT.k (CK.int .i64)), (AT.k (CK.int .i64)), (AT.k (CK.int .i64))]), (OT.f 0 6), (OT.g 33 [(AT.k (CK.int .i64)), (AT.k CK.str), (AT.k CK.bool), (AT.k (CK.sl 1)), (AT.k (CK.sl 6)), (AT.k (CK.int .i64))])] 0)])] [70, 71, 69, 72, 1000070] 1 (fun _ _ => False))) (lv := read_reader_datumO_lv) (own := (some 1)) (F := Tryz.f42) (by kernel_rfl) (by kernel_rfl) (by first | decide | simp) (fun _ _ h => h) (by kernel_rfl) H
theorem read_reader_datumO_fx (d : Int) (ws : LL) (p : Int) (en : Int) (dp : Int) (nd : Int) {x : FV} (H : read_reader_datumO_H (fun _ _ => False) (fun x' h' => x' = x ∧ h' = shH [(Ob.g 70 [(AV.fz (FV.sl 9 ws)), (AV.fz (FV.int .i64 p)), (AV.fz (FV.int .i64 en)), (AV.fz (FV.int .i64 dp)), (AV.fz (FV.int .i64 nd))])]) d ws p en dp nd) : FnX Tryz.prog 42 [(TV.one (AV.ptr 0 0 0 70)), (TV.one (AV.fz (FV.int .i64 d)))] [(Ob.g 70 [(AV.fz (FV.sl 9 ws)), (AV.fz (FV.int .i64 p)), (AV.fz (FV.int .i64 en)), (AV.fz (FV.int .i64 dp)), (AV.fz (FV.int .i64 nd))])] x :=
 FnX.by_tr (M := (modeX [] [(71, [(Sig.mk 1 [] [(OT.g 70 [(AT.k (CK.sl 9)), (AT.k (CK.int .i64)), (AT.k (CK.int .i64)), (AT.k (CK.int .i64)), (AT.k (CK.int .i64))])] 0)]), (69, [(Sig.mk 1 [(true, [(AT.k (CK.int .i64)), (AT.k CK.str), (AT.k CK.bool), (AT.k (CK.sl 1)), (AT.k (CK.sl 6)), (AT.k (CK.int .i64))])] [(OT.g 70 [(AT.k (CK.sl 9)), (AT.k (CK.int .i64)), (AT.k (CK.int .i64)), (AT.k (CK.int .i64)), (AT.k (CK.int .i64))])] 0)]), (72, [(Sig.mk 1 [(false, [(AT.a (AV.ofl 6 1))]), (false, [(AT.a (AV.fz FV.nilp))])] [(OT.g 70 [(AT.k (CK.sl 9)), (AT.k (CK.int .i64)), (AT.k (CK.int .i64)), (AT.k (CK.int .i64)), (AT.k (CK.int .i64))]), (OT.f 0 6)] 0), (Sig.mk 1 [(false, [(AT.a (AV.ofl 6 1))]), (false, [(AT.a (AV.ptr 2 0 0 0))])] [(OT.g 70 [(AT.k (CK.sl 9)), (AT.k (CK.int .i64)), (AT.k (CK.int .i64)), (AT.k (CK.int .i64)), (AT.k (CK.int .i64))]), (OT.f 0 6), (OT.g 33 [(AT.k (CK.int .i64)), (AT.k CK.str), (AT.k CK.bool), (AT.k (CK.sl 1)), (AT.k (CK.sl 6)), (AT.k (CK.int .i64))])] 0)])] [70, 71, 69, 72, 1000070] 1 (fun x' h' => x' = x ∧ h' = shH [(Ob.g 70 [(AV.fz (FV.sl 9 ws)), (AV.fz (FV.int .i64 p)), (AV.fz (FV.int .i64 en)), (AV.fz (FV.int .i64 dp)), (AV.fz (FV.int .i64 nd))])]))) (lv := read_reader_datumO_lv) (own := (some 1)) (F := Tryz.f42) (by kernel_rfl) (by kernel_rfl) (by first | decide | simp) (fun _ _ h => h) (by kernel_rfl) H
end
set_option maxRecDepth 100000
section
def read_reader_insideO_lv : List Nat → Keep := lvOf [([0, 1], ⟨199, 0, [], false, false⟩)]
def read_reader_insideO_S0 (d : Int) (v : Bool) (o : LL) (o1 : Int) (o2 : Int) (o3 : Int) (o4 : Int) (o5 : LL) : St := (St.mk [(TV.one (AV.ptr 0 0 0 70)), (TV.one (AV.fz (FV.int .i64 d))), (TV.one (AV.fz (FV.bool v))), TV.und, TV.und, TV.und, (TV.one (AV.ofl 6 1)), (TV.one (AV.fz FV.nilp)), TV.und, TV.und, TV.und, TV.und, TV.und, TV.und, TV.und, TV.und, TV.und, TV.und, TV.und, TV.und, TV.und, TV.und, TV.und, TV.und, TV.und, TV.und, TV.und, TV.und, TV.und, TV.und, TV.und, TV.und, TV.und, TV.und, TV.und, TV.und, TV.und, TV.und, TV.und, TV.und, TV.und, TV.und, TV.und, TV.und, TV.und, TV.und, TV.und, TV.und, TV.und, TV.und, TV.und, TV.und, TV.und, TV.und, TV.und, TV.und, TV.und, TV.und, TV.und, TV.und, TV.und, TV.und, TV.und, TV.und, TV.und, TV.und, TV.und, TV.und, TV.und, TV.und, TV.und, TV.und, TV.und, TV.und, TV.und, TV.und, TV.und, TV.und, TV.und, TV.und, TV.und, TV.und] [(Ob.g 70 [(AV.fz (FV.sl 9 o)), (AV.fz (FV.int .i64 o1)), (AV.fz (FV.int .i64 o2)), (AV.fz (FV.int .i64 o3)), (AV.fz (FV.int .i64 o4))]), (Ob.f 0 6 o5)])
def read_reader_insideO_L0 (R : TV → List Ob → Prop) (RX : FV → List Ob → Prop) (d : Int) (v : Bool) (o : LL) (o1 : Int) (o2 : Int) (o3 : Int) (o4 : Int) (o5 : LL) : Prop := LoopAt Tryz.prog (modeX [] [(41, [(Sig.mk 1 [(false, [(AT.k CK.bool)])] [(OT.g 70 [(AT.k (CK.sl 9)), (AT.k (CK.int .i64)), (AT.k (CK.int .i64)), (AT.k (CK.int .i64)), (AT.k (CK.int .i64))])] 0)]), (40, [(Sig.mk 1 [] [(OT.g 70 [(AT.k (CK.sl 9)), (AT.k (CK.int .i64)), (AT.k (CK.int .i64)), (AT.k (CK.int .i64)), (AT.k (CK.int .i64))])] 0)]), (69, [(Sig.mk 1 [(true, [(AT.k (CK.int .i64)), (AT.k CK.str), (AT.k CK.bool), (AT.k (CK.sl 1)), (AT.k (CK.sl 6)), (AT.k (CK.int .i64))])] [(OT.g 70 [(AT.k (CK.sl 9)), (AT.k (CK.int .i64)), (AT.k (CK.int .i64)), (AT.k (CK.int .i64)), (AT.k (CK.int .i64))])] 0)]), (42, [(Sig.mk 1 [(true, [(AT.k (CK.int .i64)), (AT.k CK.str), (AT.k CK.bool), (AT.k (CK.sl 1)), (AT.k (CK.sl 6)), (AT.k (CK.int .i64))])] [(OT.g 70 [(AT.k (CK.sl 9)), (AT.k (CK.int .i64)), (AT.k (CK.int .i64)), (AT.k (CK.int .i64)), (AT.k (CK.int .i64))])] 0)])] [70, 40, 69, 42, 1000070] 1 RX) read_reader_insideO_lv Tryz.f72 (some 1) R [1, 0] (read_reader_insideO_S0 d v o o1 o2 o3 o4 o5)
def read_reader_insideO_S1 (d : Int) (v : Bool) (es7 : LL) (n18 : Int) (n19 : Int) (n20 : Int) (n21 : Int) (o6 : LL) (n22 : Int) (s3 : ByteArray) (b3 : Bool) (es8 : LL) (es9 : LL) (n23 : Int) : St := (St.mk [(TV.one (AV.ptr 0 0 0 70)), (TV.one (AV.fz (FV.int .i64 d))), (TV.one (AV.fz (FV.bool v))), TV.und, TV.und, TV.und, (TV.one (AV.ofl 6 1)), (TV.one (AV.ptr 2 0 0 0)), TV.und, TV.und, TV.und, TV.und, TV.und, TV.und, TV.und, TV.und, TV.und, TV.und, TV.und, TV.und, TV.und, TV.und, TV.und, TV.und, TV.und, TV.und, TV.und, TV.und, TV.und, TV.und, TV.und, TV.und, TV.und, TV.und, TV.und, TV.und, TV.und, TV.und, TV.und, TV.und, TV.und, TV.und, TV.und, TV.und, TV.und, TV.und, TV.und, TV.und, TV.und, TV.und, TV.und, TV.und, TV.und, TV.und, TV.und, TV.und, TV.und, TV.und, TV.und, TV.und, TV.und, TV.und, TV.und, TV.und, TV.und, TV.und, TV.und, TV.und, TV.und, TV.und, TV.und, TV.und, TV.und, TV.und, TV.und, TV.und, TV.und, TV.und, TV.und, TV.und, TV.und, TV.und] [(Ob.g 70 [(AV.fz (FV.sl 9 es7)), (AV.fz (FV.int .i64 n18)), (AV.fz (FV.int .i64 n19)), (AV.fz (FV.int .i64 n20)), (AV.fz (FV.int .i64 n21))]), (Ob.f 0 6 o6), (Ob.g 33 [(AV.fz (FV.int .i64 n22)), (AV.fz (FV.str s3)), (AV.fz (FV.bool b3)), (AV.fz (FV.sl 1 es8)), (AV.fz (FV.sl 6 es9)), (AV.fz (FV.int .i64 n23))])])
def read_reader_insideO_L1 (R : TV → List Ob → Prop) (RX : FV → List Ob → Prop) (d : Int) (v : Bool) (es7 : LL) (n18 : Int) (n19 : Int) (n20 : Int) (n21 : Int) (o6 : LL) (n22 : Int) (s3 : ByteArray) (b3 : Bool) (es8 : LL) (es9 : LL) (n23 : Int) : Prop := LoopAt Tryz.prog (modeX [] [(41, [(Sig.mk 1 [(false, [(AT.k CK.bool)])] [(OT.g 70 [(AT.k (CK.sl 9)), (AT.k (CK.int .i64)), (AT.k (CK.int .i64)), (AT.k (CK.int .i64)), (AT.k (CK.int .i64))])] 0)]), (40, [(Sig.mk 1 [] [(OT.g 70 [(AT.k (CK.sl 9)), (AT.k (CK.int .i64)), (AT.k (CK.int .i64)), (AT.k (CK.int .i64)), (AT.k (CK.int .i64))])] 0)]), (69, [(Sig.mk 1 [(true, [(AT.k (CK.int .i64)), (AT.k CK.str), (AT.k CK.bool), (AT.k (CK.sl 1)), (AT.k (CK.sl 6)), (AT.k (CK.int .i64))])] [(OT.g 70 [(AT.k (CK.sl 9)), (AT.k (CK.int .i64)), (AT.k (CK.int .i64)), (AT.k (CK.int .i64)), (AT.k (CK.int .i64))])] 0)]), (42, [(Sig.mk 1 [(true, [(AT.k (CK.int .i64)), (AT.k CK.str), (AT.k CK.bool), (AT.k (CK.sl 1)), (AT.k (CK.sl 6)), (AT.k (CK.int .i64))])] [(OT.g 70 [(AT.k (CK.sl 9)), (AT.k (CK.int .i64)), (AT.k (CK.int .i64)), (AT.k (CK.int .i64)), (AT.k (CK.int .i64))])] 0)])] [70, 40, 69, 42, 1000070] 1 RX) read_reader_insideO_lv Tryz.f72 (some 1) R [1, 0] (read_reader_insideO_S1 d v es7 n18 n19 n20 n21 o6 n22 s3 b3 es8 es9 n23)
def read_reader_insideO_R0 (R : TV → List Ob → Prop) (RX : FV → List Ob → Prop) (d : Int) (v : Bool) (o : LL) (o1 : Int) (o2 : Int) (o3 : Int) (o4 : Int) (o5 : LL) : Prop :=
 ((∃ v29 : FV, ((FnX Tryz.prog 40 [(TV.one (AV.ptr 0 0 0 70)), (TV.one (AV.fz (FV.int .i64 d)))] [(Ob.g 70 [(AV.fz (FV.sl 9 o)), (AV.fz (FV.int .i64 o1)), (AV.fz (FV.int .i64 o2)), (AV.fz (FV.int .i64 o3)), (AV.fz (FV.int .i64 o4))])] v29) ∧ (RX v29 [(Ob.g 70 [AV.und, AV.und, AV.und, AV.und, AV.und])]))) ∨ (∃ es40 : LL, (∃ n96 : Int, (∃ n97 : Int, (∃ n98 : Int, (∃ n99 : Int, ((Fn Tryz.prog 40 [(TV.one (AV.ptr 0 0 0 70)), (TV.one (AV.fz (FV.int .i64 d)))] [(Ob.g 70 [(AV.fz (FV.sl 9 o)), (AV.fz (FV.int .i64 o1)), (AV.fz (FV.int .i64 o2)), (AV.fz (FV.int .i64 o3)), (AV.fz (FV.int .i64 o4))])] (TV.tup []) [(Ob.g 70 [(AV.fz (FV.sl 9 es40)), (AV.fz (FV.int .i64 n96)), (AV.fz (FV.int .i64 n97)), (AV.fz (FV.int .i64 n98)), (AV.fz (FV.int .i64 n99))])]) ∧ (∃ es41 : LL, (∃ n100 : Int, (∃ n101 : Int, (∃ n102 : Int, (∃ n103 : Int, (∃ b16 : Bool, ((Fn Tryz.prog 41 [(TV.one (AV.ptr 0 0 0 70))] [(Ob.g 70 [(AV.fz (FV.sl 9 es40)), (AV.fz (FV.int .i64 n96)), (AV.fz (FV.int .i64 n97)), (AV.fz (FV.int .i64 n98)), (AV.fz (FV.int .i64 n99))])] (TV.one (AV.fz (FV.bool b16))) [(Ob.g 70 [(AV.fz (FV.sl 9 es41)), (AV.fz (FV.int .i64 n100)), (AV.fz (FV.int .i64 n101)), (AV.fz (FV.int .i64 n102)), (AV.fz (FV.int .i64 n103))])]) ∧ ((((Bool.not b16) = true) → (∃ v30 : FV, ((FnX Tryz.prog 70 [(TV.one (AV.fz (FV.int .i64 n101))), (TV.one (AV.fz (FV.int .i64 3)))] [] v30) ∧ (RX v30 [(Ob.g 70 [AV.und, AV.und, AV.und, AV.und, AV.und])])))) ∧ (((Bool.not b16) = false) → (((0 : Int) ≤ n100) ∧ (∃ n104 : Int, (∃ s16 : ByteArray, (∃ n105 : Int, (∃ s17 : ByteArray, (∃ b17 : Bool, (∃ es42 : LL, (∃ es43 : LL, (∃ n106 : Int, (∃ n107 : Int, (((es41)[(Int.toNat n100)]? = (some [(FV.int .i64 n104), (FV.str s16), (FV.int .i64 n105), (FV.str s17), (FV.bool b17), (FV.sl 1 es42), (FV.sl 6 es43), (FV.int .i64 n106), (FV.int .i64 n107)])) ∧ ((((n104 == 2) = true) → (R (TV.tup [(false, [(AV.ofl 6 1)]), (false, [(AV.fz FV.nilp)])]) [(Ob.g 70 [(AV.fz (FV.sl 9 es41)), (AV.fz (FV.int .i64 (IntKind.wrap .i64 (n100 + 1)))), (AV.fz (FV.int .i64 n101)), (AV.fz (FV.int .i64 n102)), (AV.fz (FV.int .i64 n103))]), (Ob.f 0 6 o5)])) ∧ (((n104 == 2) = false) → ((((Bool.not true) = true) → (∃ v31 : FV, ((FnX Tryz.prog 70 [(TV.one (AV.fz (FV.int .i64 n107))), (TV.one (AV.fz (FV.int .i64 3)))] [] v31) ∧ (RX v31 [(Ob.g 70 [AV.und, AV.und, AV.und, AV.und, AV.und])])))) ∧ (((Bool.not true) = false) → ((((n104 != 4) = true) → ((∃ v32 : FV, ((FnX Tryz.prog 42 [(TV.one (AV.ptr 0 0 0 70)), (TV.one (AV.fz (FV.int .i64 d)))] [(Ob.g 70 [(AV.fz (FV.sl 9 es41)), (AV.fz (FV.int .i64 n100)), (AV.fz (FV.int .i64 n101)), (AV.fz (FV.int .i64 n102)), (AV.fz (FV.int .i64 n103))])] v32) ∧ (RX v32 [(Ob.g 70 [AV.und, AV.und, AV.und, AV.und, AV.und])]))) ∨ (∃ es44 : LL, (∃ n108 : Int, (∃ n109 : Int, (∃ n110 : Int, (∃ n111 : Int, (∃ n112 : Int, (∃ s18 : ByteArray, (∃ b18 : Bool, (∃ es45 : LL, (∃ es46 : LL, (∃ n113 : Int, ((Fn Tryz.prog 42 [(TV.one (AV.ptr 0 0 0 70)), (TV.one (AV.fz (FV.int .i64 d)))] [(Ob.g 70 [(AV.fz (FV.sl 9 es41)), (AV.fz (FV.int .i64 n100)), (AV.fz (FV.int .i64 n101)), (AV.fz (FV.int .i64 n102)), (AV.fz (FV.int .i64 n103))])] (TV.agg [(AV.fz (FV.int .i64 n112)), (AV.fz (FV.str s18)), (AV.fz (FV.bool b18)), (AV.fz (FV.sl 1 es45)), (AV.fz (FV.sl 6 es46)), (AV.fz (FV.int .i64 n113))]) [(Ob.g 70 [(AV.fz (FV.sl 9 es44)), (AV.fz (FV.int .i64 n108)), (AV.fz (FV.int .i64 n109)), (AV.fz (FV.int .i64 n110)), (AV.fz (FV.int .i64 n111))])]) ∧ (((((List.length o5) + (List.length [[(FV.int .i64 n112), (FV.str s18), (FV.bool b18), (FV.sl 1 es45), (FV.sl 6 es46), (FV.int .i64 n113)]])) * 88) ≤ 220000000000000) ∧ (read_reader_insideO_L0 R RX d v es44 n108 n109 n110 n111 (o5 ++ [[(FV.int .i64 n112), (FV.str s18), (FV.bool b18), (FV.sl 1 es45), (FV.sl 6 es46), (FV.int .i64 n113)]]))))))))))))))))) ∧ (((n104 != 4) = false) → (((v = true) → (∃ v33 : FV, ((FnX Tryz.prog 70 [(TV.one (AV.fz (FV.int .i64 n107))), (TV.one (AV.fz (FV.int .i64 3)))] [] v33) ∧ (RX v33 [(Ob.g 70 [AV.und, AV.und, AV.und, AV.und, AV.und])])))) ∧ ((v = false) → (((((((List.length o5) : Nat) : Int) == 0) = true) → (∃ v34 : FV, ((FnX Tryz.prog 70 [(TV.one (AV.fz (FV.int .i64 n107))), (TV.one (AV.fz (FV.int .i64 3)))] [] v34) ∧ (RX v34 [(Ob.g 70 [AV.und, AV.und, AV.und, AV.und, AV.und])])))) ∧ ((((((List.length o5) : Nat) : Int) == 0) = false) → ((∃ v35 : FV, ((FnX Tryz.prog 69 [(TV.one (AV.ptr 0 0 0 70)), (TV.one (AV.fz (FV.int .i64 n107))), (TV.one (AV.fz (FV.int .i64 d)))] [(Ob.g 70 [(AV.fz (FV.sl 9 es41)), (AV.fz (FV.int .i64 (IntKind.wrap .i64 (n100 + 1)))), (AV.fz (FV.int .i64 n101)), (AV.fz (FV.int .i64 n102)), (AV.fz (FV.int .i64 n103))])] v35) ∧ (RX v35 [(Ob.g 70 [AV.und, AV.und, AV.und, AV.und, AV.und])]))) ∨ (∃ es47 : LL, (∃ n114 : Int, (∃ n115 : Int, (∃ n116 : Int, (∃ n117 : Int, (∃ n118 : Int, (∃ s19 : ByteArray, (∃ b19 : Bool, (∃ es48 : LL, (∃ es49 : LL, (∃ n119 : Int, ((Fn Tryz.prog 69 [(TV.one (AV.ptr 0 0 0 70)), (TV.one (AV.fz (FV.int .i64 n107))), (TV.one (AV.fz (FV.int .i64 d)))] [(Ob.g 70 [(AV.fz (FV.sl 9 es41)), (AV.fz (FV.int .i64 (IntKind.wrap .i64 (n100 + 1)))), (AV.fz (FV.int .i64 n101)), (AV.fz (FV.int .i64 n102)), (AV.fz (FV.int .i64 n103))])] (TV.agg [(AV.fz (FV.int .i64 n118)), (AV.fz (FV.str s19)), (AV.fz (FV.bool b19)), (AV.fz (FV.sl 1 es48)), (AV.fz (FV.sl 6 es49)), (AV.fz (FV.int .i64 n119))]) [(Ob.g 70 [(AV.fz (FV.sl 9 es47)), (AV.fz (FV.int .i64 n114)), (AV.fz (FV.int .i64 n115)), (AV.fz (FV.int .i64 n116)), (AV.fz (FV.int .i64 n117))])]) ∧ (read_reader_insideO_L1 R RX d v es47 n114 n115 n116 n117 o5 n118 s19 b19 es48 es49 n119)))))))))))))))))))))))))))))))))))))))))))))))))))
theorem read_reader_insideO_l0 {R : TV → List Ob → Prop} {RX : FV → List Ob → Prop} {d : Int} {v : Bool} {o : LL} {o1 : Int} {o2 : Int} {o3 : Int} {o4 : Int} {o5 : LL} (h : read_reader_insideO_R0 R RX d v o o1 o2 o3 o4 o5) : read_reader_insideO_L0 R RX d v o o1 o2 o3 o4 o5 :=
 LoopAt.by_tr (by kernel_rfl) (by kernel_rfl) h
def read_reader_insideO_R1 (R : TV → List Ob → Prop) (RX : FV → List Ob → Prop) (d : Int) (v : Bool) (es7 : LL) (n18 : Int) (n19 : Int) (n20 : Int) (n21 : Int) (o6 : LL) (n22 : Int) (s3 : ByteArray) (b3 : Bool) (es8 : LL) (es9 : LL) (n23 : Int) : Prop :=
 ((∃ v29 : FV, ((FnX Tryz.prog 40 [(TV.one (AV.ptr 0 0 0 70)), (TV.one (AV.fz (FV.int .i64 d)))] [(Ob.g 70 [(AV.fz (FV.sl 9 es7)), (AV.fz (FV.int .i64 n18)), (AV.fz (FV.int .i64 n19)), (AV.fz (FV.int .i64 n20)), (AV.fz (FV.int .i64 n21))])] v29) ∧ (RX v29 [(Ob.g 70 [AV.und, AV.und, AV.und, AV.und, AV.und])]))) ∨ (∃ es40 : LL, (∃ n96 : Int, (∃ n97 : Int, (∃ n98 : Int, (∃ n99 : Int, ((Fn Tryz.prog 40 [(TV.one (AV.ptr 0 0 0 70)), (TV.one (AV.fz (FV.int .i64 d)))] [(Ob.g 70 [(AV.fz (FV.sl 9 es7)), (AV.fz (FV.int .i64 n18)), (AV.fz (FV.int .i64 n19)), (AV.fz (FV.int .i64 n20)), (AV.fz (FV.int .i64 n21))])] (TV.tup []) [(Ob.g 70 [(AV.fz (FV.sl 9 es40)), (AV.fz (FV.int .i64 n96)), (AV.fz (FV.int .i64 n97)), (AV.fz (FV.int .i64 n98)), (AV.fz (FV.int .i64 n99))])]) ∧ (∃ es41 : LL, (∃ n100 : Int, (∃ n101 : Int, (∃ n102 : Int, (∃ n103 : Int, (∃ b16 : Bool, ((Fn Tryz.prog 41 [(TV.one (AV.ptr 0 0 0 70))] [(Ob.g 70 [(AV.fz (FV.sl 9 es40)), (AV.fz (FV.int .i64 n96)), (AV.fz (FV.int .i64 n97)), (AV.fz (FV.int .i64 n98)), (AV.fz (FV.int .i64 n99))])] (TV.one (AV.fz (FV.bool b16))) [(Ob.g 70 [(AV.fz (FV.sl 9 es41)), (AV.fz (FV.int .i64 n100)), (AV.fz (FV.int .i64 n101)), (AV.fz (FV.int .i64 n102)), (AV.fz (FV.int .i64 n103))])]) ∧ ((((Bool.not b16) = true) → (∃ v30 : FV, ((FnX Tryz.prog 70 [(TV.one (AV.fz (FV.int .i64 n101))), (TV.one (AV.fz (FV.int .i64 3)))] [] v30) ∧ (RX v30 [(Ob.g 70 [AV.und, AV.und, AV.und, AV.und, AV.und])])))) ∧ (((Bool.not b16) = false) → (((0 : Int) ≤ n100) ∧ (∃ n104 : Int, (∃ s16 : ByteArray, (∃ n105 : Int, (∃ s17 : ByteArray, (∃ b17 : Bool, (∃ es42 : LL, (∃ es43 : LL, (∃ n106 : Int, (∃ n107 : Int, (((es41)[(Int.toNat n100)]? = (some [(FV.int .i64 n104), (FV.str s16), (FV.int .i64 n105), (FV.str s17), (FV.bool b17), (FV.sl 1 es42), (FV.sl 6 es43), (FV.int .i64 n106), (FV.int .i64 n107)])) ∧ ((((n104 == 2) = true) → (R (TV.tup [(false, [(AV.ofl 6 1)]), (false, [(AV.ptr 2 0 0 0)])]) [(Ob.g 70 [(AV.fz (FV.sl 9 es41)), (AV.fz (FV.int .i64 (IntKind.wrap .i64 (n100 + 1)))), (AV.fz (FV.int .i64 n101)), (AV.fz (FV.int .i64 n102)), (AV.fz (FV.int .i64 n103))]), (Ob.f 0 6 o6), (Ob.g 33 [(AV.fz (FV.int .i64 n22)), (AV.fz (FV.str s3)), (AV.fz (FV.bool b3)), (AV.fz (FV.sl 1 es8)), (AV.fz (FV.sl 6 es9)), (AV.fz (FV.int .i64 n23))])])) ∧ (((n104 == 2) = false) → ((((Bool.not false) = true) → (∃ v31 : FV, ((FnX Tryz.prog 70 [(TV.one (AV.fz (FV.int .i64 n107))), (TV.one (AV.fz (FV.int .i64 3)))] [] v31) ∧ (RX v31 [(Ob.g 70 [AV.und, AV.und, AV.und, AV.und, AV.und])])))) ∧ (((Bool.not false) = false) → ((((n104 != 4) = true) → ((∃ v32 : FV, ((FnX Tryz.prog 42 [(TV.one (AV.ptr 0 0 0 70)), (TV.one (AV.fz (FV.int .i64 d)))] [(Ob.g 70 [(AV.fz (FV.sl 9 es41)), (AV.fz (FV.int .i64 n100)), (AV.fz (FV.int .i64 n101)), (AV.fz (FV.int .i64 n102)), (AV.fz (FV.int .i64 n103))])] v32) ∧ (RX v32 [(Ob.g 70 [AV.und, AV.und, AV.und, AV.und, AV.und])]))) ∨ (∃ es44 : LL, (∃ n108 : Int, (∃ n109 : Int, (∃ n110 : Int, (∃ n111 : Int, (∃ n112 : Int, (∃ s18 : ByteArray, (∃ b18 : Bool, (∃ es45 : LL, (∃ es46 : LL, (∃ n113 : Int, ((Fn Tryz.prog 42 [(TV.one (AV.ptr 0 0 0 70)), (TV.one (AV.fz (FV.int .i64 d)))] [(Ob.g 70 [(AV.fz (FV.sl 9 es41)), (AV.fz (FV.int .i64 n100)), (AV.fz (FV.int .i64 n101)), (AV.fz (FV.int .i64 n102)), (AV.fz (FV.int .i64 n103))])] (TV.agg [(AV.fz (FV.int .i64 n112)), (AV.fz (FV.str s18)), (AV.fz (FV.bool b18)), (AV.fz (FV.sl 1 es45)), (AV.fz (FV.sl 6 es46)), (AV.fz (FV.int .i64 n113))]) [(Ob.g 70 [(AV.fz (FV.sl 9 es44)), (AV.fz (FV.int .i64 n108)), (AV.fz (FV.int .i64 n109)), (AV.fz (FV.int .i64 n110)), (AV.fz (FV.int .i64 n111))])]) ∧ (((((List.length o6) + (List.length [[(FV.int .i64 n112), (FV.str s18), (FV.bool b18), (FV.sl 1 es45), (FV.sl 6 es46), (FV.int .i64 n113)]])) * 88) ≤ 220000000000000) ∧ (read_reader_insideO_L1 R RX d v es44 n108 n109 n110 n111 (o6 ++ [[(FV.int .i64 n112), (FV.str s18), (FV.bool b18), (FV.sl 1 es45), (FV.sl 6 es46), (FV.int .i64 n113)]]) n22 s3 b3 es8 es9 n23)))))))))))))))) ∧ (((n104 != 4) = false) → (((v = true) → (∃ v33 : FV, ((FnX Tryz.prog 70 [(TV.one (AV.fz (FV.int .i64 n107))), (TV.one (AV.fz (FV.int .i64 3)))] [] v33) ∧ (RX v33 [(Ob.g 70 [AV.und, AV.und, AV.und, AV.und, AV.und])])))) ∧ ((v = false) → (((((((List.length o6) : Nat) : Int) == 0) = true) → (∃ v34 : FV, ((FnX Tryz.prog 70 [(TV.one (AV.fz (FV.int .i64 n107))), (TV.one (AV.fz (FV.int .i64 3)))] [] v34) ∧ (RX v34 [(Ob.g 70 [AV.und, AV.und, AV.und, AV.und, AV.und])])))) ∧ ((((((List.length o6) : Nat) : Int) == 0) = false) → ((∃ v35 : FV, ((FnX Tryz.prog 69 [(TV.one (AV.ptr 0 0 0 70)), (TV.one (AV.fz (FV.int .i64 n107))), (TV.one (AV.fz (FV.int .i64 d)))] [(Ob.g 70 [(AV.fz (FV.sl 9 es41)), (AV.fz (FV.int .i64 (IntKind.wrap .i64 (n100 + 1)))), (AV.fz (FV.int .i64 n101)), (AV.fz (FV.int .i64 n102)), (AV.fz (FV.int .i64 n103))])] v35) ∧ (RX v35 [(Ob.g 70 [AV.und, AV.und, AV.und, AV.und, AV.und])]))) ∨ (∃ es47 : LL, (∃ n114 : Int, (∃ n115 : Int, (∃ n116 : Int, (∃ n117 : Int, (∃ n118 : Int, (∃ s19 : ByteArray, (∃ b19 : Bool, (∃ es48 : LL, (∃ es49 : LL, (∃ n119 : Int, ((Fn Tryz.prog 69 [(TV.one (AV.ptr 0 0 0 70)), (TV.one (AV.fz (FV.int .i64 n107))), (TV.one (AV.fz (FV.int .i64 d)))] [(Ob.g 70 [(AV.fz (FV.sl 9 es41)), (AV.fz (FV.int .i64 (IntKind.wrap .i64 (n100 + 1)))), (AV.fz (FV.int .i64 n101)), (AV.fz (FV.int .i64 n102)), (AV.fz (FV.int .i64 n103))])] (TV.agg [(AV.fz (FV.int .i64 n118)), (AV.fz (FV.str s19)), (AV.fz (FV.bool b19)), (AV.fz (FV.sl 1 es48)), (AV.fz (FV.sl 6 es49)), (AV.fz (FV.int .i64 n119))]) [(Ob.g 70 [(AV.fz (FV.sl 9 es47)), (AV.fz (FV.int .i64 n114)), (AV.fz (FV.int .i64 n115)), (AV.fz (FV.int .i64 n116)), (AV.fz (FV.int .i64 n117))])]) ∧ (read_reader_insideO_L1 R RX d v es47 n114 n115 n116 n117 o6 n118 s19 b19 es48 es49 n119)))))))))))))))))))))))))))))))))))))))))))))))))))
theorem read_reader_insideO_l1 {R : TV → List Ob → Prop} {RX : FV → List Ob → Prop} {d : Int} {v : Bool} {es7 : LL} {n18 : Int} {n19 : Int} {n20 : Int} {n21 : Int} {o6 : LL} {n22 : Int} {s3 : ByteArray} {b3 : Bool} {es8 : LL} {es9 : LL} {n23 : Int} (h : read_reader_insideO_R1 R RX d v es7 n18 n19 n20 n21 o6 n22 s3 b3 es8 es9 n23) : read_reader_insideO_L1 R RX d v es7 n18 n19 n20 n21 o6 n22 s3 b3 es8 es9 n23 :=
 LoopAt.by_tr (by kernel_rfl) (by kernel_rfl) h
def read_reader_insideO_H (R : TV → List Ob → Prop) (RX : FV → List Ob → Prop) (d : Int) (v : Bool) (ws : LL) (p : Int) (en : Int) (dp : Int) (nd : Int) : Prop :=
 (read_reader_insideO_L0 R RX d v ws p en dp nd ([] : List (List FV)))
theorem read_reader_insideO_fn (d : Int) (v : Bool) (ws : LL) (p : Int) (en : Int) (dp : Int) (nd : Int) {r : TV} {h : List Ob} (H : read_reader_insideO_H (fun r' h' => r' = r ∧ Wk h' h) (fun _ _ => False) d v ws p en dp nd) : Fn Tryz.prog 72 [(TV.one (AV.ptr 0 0 0 70)), (TV.one (AV.fz (FV.int .i64 d))), (TV.one (AV.fz (FV.bool v)))] [(Ob.g 70 [(AV.fz (FV.sl 9 ws)), (AV.fz (FV.int .i64 p)), (AV.fz (FV.int .i64 en)), (AV.fz (FV.int .i64 dp)), (AV.fz (FV.int .i64 nd))])] r h :=
 Fn.by_trW (M := (modeX [] [(41, [(Sig.mk 1 [(false, [(AT.k CK.bool)])] [(OT.g 70 [(AT.k (CK.sl 9)), (AT.k (CK.int .i64)), (AT.k (CK.int .i64)), (AT.k (CK.int .i64)), (AT.k (CK.int .i64))])] 0)]), (40, [(Sig.mk 1 [] [(OT.g 70 [(AT.k (CK.sl 9)), (AT.k (CK.int .i64)), (AT.k (CK.int .i64)), (AT.k (CK.int .i64)), (AT.k (CK.int .i64))])] 0)]), (69, [(Sig.mk 1 [(true, [(AT.k (CK.int .i64)), (AT.k CK.str), (AT.k CK.bool), (AT.k (CK.sl 1)), (AT.k (CK.sl 6)), (AT.k (CK.int .i64))])] [(OT.g 70 [(AT.k (CK.sl 9)), (AT.k (CK.int .i64)), (AT.k (CK.int .i64)), (AT.k (CK.int .i64)), (AT.k (CK.int .i64))])] 0)]), (42, [(Sig.mk 1 [(true, [(AT.k (CK.int .i64)), (AT.k CK.str), (AT.k CK.bool), (AT.k (CK.sl 1)), (AT.k (CK.sl 6)), (AT.k (CK.int .i64))])] [(OT.g 70 [(AT.k (CK.sl 9)), (AT.k (CK.int .i64)), (AT.k (CK.int .i64)), (AT.k (CK.int .i64)), (AT.k (CK.int .i64))])] 0)])] [70, 40, 69, 42, 1000070] 1 (fun _ _ => False))) (lv := read_reader_insideO_lv) (own := (some 1)) (F := Tryz.f72) (by kernel_rfl) (by kernel_rfl) (by first | decide | simp) (fun _ _ h => h) (by kernel_rfl) H
theorem read_reader_insideO_fx (d : Int) (v : Bool) (ws : LL) (p : Int) (en : Int) (dp : Int) (nd : Int) {x : FV} (H : read_reader_insideO_H (fun _ _ => False) (fun x' h' => x' = x ∧ h' = shH [(Ob.g 70 [(AV.fz (FV.sl 9 ws)), (AV.fz (FV.int .i64 p)), (AV.fz (FV.int .i64 en)), (AV.fz (FV.int .i64 dp)), (AV.fz (FV.int .i64 nd))])]) d v ws p en dp nd) : FnX Tryz.prog 72 [(TV.one (AV.ptr 0 0 0 70)), (TV.one (AV.fz (FV.int .i64 d))), (TV.one (AV.fz (FV.bool v)))] [(Ob.g 70 [(AV.fz (FV.sl 9 ws)), (AV.fz (FV.int .i64 p)), (AV.fz (FV.int .i64 en)), (AV.fz (FV.int .i64 dp)), (AV.fz (FV.int .i64 nd))])] x :=
 FnX.by_tr (M := (modeX [] [(41, [(Sig.mk 1 [(false, [(AT.k CK.bool)])] [(OT.g 70 [(AT.k (CK.sl 9)), (AT.k (CK.int .i64)), (AT.k (CK.int .i64)), (AT.k (CK.int .i64)), (AT.k (CK.int .i64))])] 0)]), (40, [(Sig.mk 1 [] [(OT.g 70 [(AT.k (CK.sl 9)), (AT.k (CK.int .i64)), (AT.k (CK.int .i64)), (AT.k (CK.int .i64)), (AT.k (CK.int .i64))])] 0)]), (69, [(Sig.mk 1 [(true, [(AT.k (CK.int .i64)), (AT.k CK.str), (AT.k CK.bool), (AT.k (CK.sl 1)), (AT.k (CK.sl 6)), (AT.k (CK.int .i64))])] [(OT.g 70 [(AT.k (CK.sl 9)), (AT.k (CK.int .i64)), (AT.k (CK.int .i64)), (AT.k (CK.int .i64)), (AT.k (CK.int .i64))])] 0)]), (42, [(Sig.mk 1 [(true, [(AT.k (CK.int .i64)), (AT.k CK.str), (AT.k CK.bool), (AT.k (CK.sl 1)), (AT.k (CK.sl 6)), (AT.k (CK.int .i64))])] [(OT.g 70 [(AT.k (CK.sl 9)), (AT.k (CK.int .i64)), (AT.k (CK.int .i64)), (AT.k (CK.int .i64)), (AT.k (CK.int .i64))])] 0)])] [70, 40, 69, 42, 1000070] 1 (fun x' h' => x' = x ∧ h' = shH [(Ob.g 70 [(AV.fz (FV.sl 9 ws)), (AV.fz (FV.int .i64 p)), (AV.fz (FV.int .i64 en)), (AV.fz (FV.int .i64 dp)), (AV.fz (FV.int .i64 nd))])]))) (lv := read_reader_insideO_lv) (own := (some 1)) (F := Tryz.f72) (by kernel_rfl) (by kernel_rfl) (by first | decide | simp) (fun _ _ h => h) (by kernel_rfl) H
end
section
abbrev flt (a e : Int) : FV := .ifv 66 true [.int .i64 a, .int .i64 e]
abbrev rdP : TV := .one (.ptr 0 0 0 70)
def tkR (ws : List Tok) : List (List FV) := ws.map Tok.row
abbrev rdO (ws : List Tok) (p : Nat) (en dp nd : Int) : Ob := .g 70 [.fz (.sl 9 (tkR ws)), .fz (.int .i64 ((p : Nat) : Int)), .fz (.int .i64 en), .fz (.int .i64 dp), .fz (.int .i64 nd)]
abbrev rdU : Ob := .g 70 [.und, .und, .und, .und, .und]
theorem tkR_len (ws : List Tok) : (tkR ws).length = ws.length := by simp [tkR]
theorem tkR_get {ws r : List Tok} {t : Tok} {p : Nat} (h : ws.drop p = t :: r) : (tkR ws)[(Int.toNat ((p : Nat) : Int))]? = some t.row ∧ p < ws.length ∧ r = ws.drop (p + 1) := by
 have hp : p < ws.length := by
  rcases Nat.lt_or_ge p ws.length with h' | h'
  ·exact h'
  ·rw [List.drop_of_length_le h'] at h; cases h
 rw [List.drop_eq_getElem_cons hp] at h
 injection h with h1 h2
 refine ⟨?_, hp, h2.symm⟩
 rw [Int.toNat_natCast]
 simp only [tkR, List.getElem?_map, List.getElem?_eq_getElem hp, Option.map_some, h1]
theorem fail_ok (a e : Int) : FnX Tryz.prog 70 [fzI .i64 a, fzI .i64 e] [] (flt a e) := by
 refine read_fail_fx _ _ ?_
 unfold read_fail_H
 exact ⟨rfl, rfl⟩
theorem rdMore_ok (ws : List Tok) (p : Nat) (en dp nd : Int) : Fn Tryz.prog 41 [rdP] [rdO ws p en dp nd] (fzB (decide (p < ws.length))) [rdO ws p en dp nd] := by
 refine read_reader_moreO_fn _ _ _ _ _ ?_
 unfold read_reader_moreO_H
 rw [tkR_len]
 refine ⟨?_, Wk.refl _⟩
 congr 3
 exact decide_eq_decide.2 (by omega)
theorem begin_t (ws : List Tok) (p : Nat) (en dp nd a d : Int) (h0 : 0 ≤ nd) (h1 : nd ≤ 8192) (h : ¬ begE dp d nd ≠ 0) : Fn Tryz.prog 71 [rdP, fzI .i64 a, fzI .i64 d] [rdO ws p en dp nd] (.tup []) [rdO ws p en dp (nd + 1)] := by
 obtain ⟨b1, b2⟩ := begE_zero h
 refine read_reader_beginO_fn _ _ _ _ _ _ _ ?_
 unfold read_reader_beginO_H
 have e : IntKind.wrap .i64 (nd + 1) = nd + 1 := w64 (by omega) (by omega)
 rw [e, dec_t, dec_f, dec_t, dec_f]
 exact ⟨fun h => by omega, fun _ => ⟨fun h => by omega, fun _ => ⟨rfl, Wk.refl _⟩⟩⟩
theorem begin_x (ws : List Tok) (p : Nat) (en dp nd a d : Int) (h0 : 0 ≤ nd) (h1 : nd ≤ 8192) (h : begE dp d nd ≠ 0) : FnX Tryz.prog 71 [rdP, fzI .i64 a, fzI .i64 d] [rdO ws p en dp nd] (flt a (begE dp d nd)) := by
 refine read_reader_beginO_fx _ _ _ _ _ _ _ ?_
 unfold read_reader_beginO_H
 have e : IntKind.wrap .i64 (nd + 1) = nd + 1 := w64 (by omega) (by omega)
 rw [e, dec_t, dec_f, dec_t, dec_f]
 unfold begE at h ⊢
 by_cases c1 : dp < d
 ·rw [if_pos c1]
  exact ⟨fun _ => ⟨_, fail_ok _ _, rfl, rfl⟩, fun h => absurd c1 h⟩
 ·rw [if_neg c1] at h ⊢
  by_cases c2 : 8192 < nd + 1
  ·rw [if_pos c2]
   exact ⟨fun h => absurd h c1, fun _ => ⟨fun _ => ⟨_, fail_ok _ _, rfl, rfl⟩, fun h => absurd c2 h⟩⟩
  ·rw [if_neg c2] at h; exact absurd rfl h
def Con (ws : List Tok) (en dp : Int) (f : FuncId) (args : List TV) (p : Nat) (nd : Int) {α : Type} (res : RdR α) (k : α → TV × List Ob) : Prop :=
 match res with
 | .ok v n nd' => Fn Tryz.prog f args [rdO ws p en dp nd] (k v).1 (rdO ws (p + n) en dp nd' :: (k v).2)
 | .bad a e => FnX Tryz.prog f args [rdO ws p en dp nd] (flt a e)
def Outc (ws : List Tok) (en dp : Int) (p : Nat) (R : TV → List Ob → Prop) (RX : FV → List Ob → Prop) {α : Type} (res : RdR α) (k : α → TV × List Ob) : Prop :=
 match res with
 | .ok v n nd' => R (k v).1 (rdO ws (p + n) en dp nd' :: (k v).2)
 | .bad a e => RX (flt a e) [rdU]
theorem Con.of {ws : List Tok} {en dp : Int} {f : FuncId} {args : List TV} {p : Nat} {nd : Int} {α : Type} {res : RdR α} {k : α → TV × List Ob} (H : (TV → List Ob → Prop) → (FV → List Ob → Prop) → Prop)
  (hfn : ∀ r h, H (fun r' h' => r' = r ∧ Wk h' h) (fun _ _ => False) → Fn Tryz.prog f args [rdO ws p en dp nd] r h)
  (hfx : ∀ x, H (fun _ _ => False) (fun x' h' => x' = x ∧ h' = shH [rdO ws p en dp nd]) → FnX Tryz.prog f args [rdO ws p en dp nd] x)
  (hH : ∀ R RX, Outc ws en dp p R RX res k → H R RX) : Con ws en dp f args p nd res k := by
 cases res with
 | ok v n nd' => exact hfn _ _ (hH _ _ ⟨rfl, Wk.refl _⟩)
 | bad a e => exact hfx _ (hH _ _ ⟨rfl, rfl⟩)
def kS : Unit → TV × List Ob := fun _ => (.tup [], [])
def kD : Dt → TV × List Ob := fun x => (fzD x, [])
def kI : List Dt × Option Dt → TV × List Ob := fun w =>
 match w.2 with
 | none => (.tup [(false, [.ofl 6 1]), (false, [.fz .nilp])], [.f 0 6 (Dt.rows w.1)])
 | some x => (.tup [(false, [.ofl 6 1]), (false, [.ptr 2 0 0 0])], [.f 0 6 (Dt.rows w.1), .g 33 (x.row.map .fz)])
structure RdW (ws : List Tok) (en dp : Int) (p : Nat) : Prop where
 sl : ∀ (d nd : Int) (R : TV → List Ob → Prop) (RX : FV → List Ob → Prop), 0 ≤ d → d ≤ dp + 1 → 0 ≤ nd → nd ≤ 8192 → Outc ws en dp p R RX (skipR dp en (ws.drop p) d nd) kS → read_reader_skipsO_L0 R RX d (tkR ws) p en dp nd
 d : p < ws.length → ∀ (d nd : Int), 0 ≤ d → d ≤ dp + 1 → 0 ≤ nd → nd ≤ 8192 → Con ws en dp 42 [rdP, fzI .i64 d] p nd (datR dp en (ws.drop p) d nd) kD
 b : ∀ (a d nd : Int), 0 ≤ d → d ≤ dp + 1 → 0 ≤ nd → nd ≤ 8192 → Con ws en dp 69 [rdP, fzI .i64 a, fzI .i64 d] p nd (behR dp en (ws.drop p) d nd) kD
 il : ∀ (d : Int) (v : Bool) (acc : List Dt) (tail : Option Dt) (nd : Int) (R : TV → List Ob → Prop) (RX : FV → List Ob → Prop), 0 ≤ d → d ≤ dp + 1 → 0 ≤ nd → nd ≤ 8192 → acc.length ≤ p → Outc ws en dp p R RX (insR dp en (ws.drop p) d v acc tail nd) kI →
  match tail with
  | none => read_reader_insideO_L0 R RX d v (tkR ws) p en dp nd (Dt.rows acc)
  | some (.mk k t n l xs a) => read_reader_insideO_L1 R RX d v (tkR ws) p en dp nd (Dt.rows acc) k t n (ints .u32 l) (Dt.rows xs) a
variable {ws : List Tok} {en dp : Int} {p : Nat}
theorem RdW.s (h : RdW ws en dp p) (d nd : Int) (h0 : 0 ≤ d) (h1 : d ≤ dp + 1) (h2 : 0 ≤ nd) (h3 : nd ≤ 8192) : Con ws en dp 40 [rdP, fzI .i64 d] p nd (skipR dp en (ws.drop p) d nd) kS :=
 Con.of (fun R RX => read_reader_skipsO_H R RX d (tkR ws) p en dp nd) (fun r h H => read_reader_skipsO_fn _ _ _ _ _ _ H) (fun x H => read_reader_skipsO_fx _ _ _ _ _ _ H) (fun R RX ho => h.sl d nd R RX h0 h1 h2 h3 ho)
theorem RdW.i (h : RdW ws en dp p) (d : Int) (v : Bool) (nd : Int) (h0 : 0 ≤ d) (h1 : d ≤ dp + 1) (h2 : 0 ≤ nd) (h3 : nd ≤ 8192) : Con ws en dp 72 [rdP, fzI .i64 d, fzB v] p nd (insR dp en (ws.drop p) d v [] none nd) kI := by
 refine Con.of (fun R RX => read_reader_insideO_H R RX d v (tkR ws) p en dp nd) (fun r h H => read_reader_insideO_fn _ _ _ _ _ _ _ H) (fun x H => read_reader_insideO_fx _ _ _ _ _ _ _ H) (fun R RX ho => ?_)
 have := h.il d v [] none nd R RX h0 h1 h2 h3 (by simp) ho
 unfold read_reader_insideO_H
 simpa only [Dt.rows] using this
end
section
variable {ws : List Tok} {en dp : Int} {p : Nat}
theorem wrapP (hw : ws.length ≤ 100000000) (hp : p ≤ ws.length) : IntKind.wrap .i64 (((p : Nat) : Int) + 1) = ((p + 1 : Nat) : Int) := w64 (by omega) (by omega)
theorem Outc.shift {q : Nat} {R : TV → List Ob → Prop} {RX : FV → List Ob → Prop} {α β : Type} {res : RdR α} {res' : RdR β} {k : α → TV × List Ob} {k' : β → TV × List Ob} (ho : Outc ws en dp p R RX res k)
  (h : match res' with | .bad a e => res = .bad a e | .ok v n nd => ∃ v' n', res = .ok v' n' nd ∧ k v' = k' v ∧ p + n' = q + n) : Outc ws en dp q R RX res' k' := by
 cases res' with
 | bad a e => simp only at h; rw [h] at ho; exact ho
 | ok v n nd =>
  obtain ⟨v', n', h1, h2, h3⟩ := h
  rw [h1] at ho
  unfold Outc at ho ⊢
  simp only at ho ⊢
  rw [← h2, ← h3]
  exact ho
theorem tok_row (t : Tok) : ∃ k s, ∃ x : Dt, ∃ a : Nat, t = ⟨k, s, x, a⟩ := ⟨t.kind, t.name, t.d, t.at_, rfl⟩
theorem rdW_all (hw : ws.length ≤ 100000000) (hpl : Plain ws) (hd0 : 0 ≤ dp) (hd1 : dp ≤ 64) : ∀ (N p : Nat), ws.length - p = N → p ≤ ws.length → RdW ws en dp p := by
 intro N
 induction N using Nat.strongRecOn with
 | _ N ih =>
  intro p hN hp
  have sub : ∀ q, p < q → q ≤ ws.length → RdW ws en dp q := fun q h1 h2 => ih (ws.length - q) (by omega) q rfl h2
  have ep := wrapP hw hp
  have hB : ∀ q, RdB dp en (ws.drop q) := fun q => rdB_all dp en _ _ rfl (hpl.drop q)
  have hlen : ∀ q, (ws.drop q).length = ws.length - q := fun q => List.length_drop
  have hsl : ∀ (d nd : Int) (R : TV → List Ob → Prop) (RX : FV → List Ob → Prop), 0 ≤ d → d ≤ dp + 1 → 0 ≤ nd → nd ≤ 8192 → Outc ws en dp p R RX (skipR dp en (ws.drop p) d nd) kS → read_reader_skipsO_L0 R RX d (tkR ws) p en dp nd := by
   intro d nd R RX h0 h1 h2 h3 ho
   have hm := rdMore_ok ws p en dp nd
   unfold skipR at ho
   refine read_reader_skipsO_l0 ?_
   unfold read_reader_skipsO_R0
   refine ⟨_, _, _, _, _, _, hm, ?_⟩
   cases hdr : ws.drop p with
   | nil =>
    have hge : ¬ p < ws.length := fun h => by
     have := hlen p
     rw [hdr] at this
     simp at this; omega
    rw [hdr] at ho
    simp only at ho
    rw [decide_eq_false hge]
    exact ⟨fun h => (by cases h), fun _ => ho⟩
   | cons t r =>
    rw [hdr] at ho
    simp only at ho
    obtain ⟨g1, g2, rfl⟩ := tkR_get hdr
    rw [decide_eq_true g2]
    refine ⟨fun _ => ?_, fun h => (by cases h)⟩
    by_cases c : t.kind = 5
    ·rw [if_pos c] at ho
     have hb := (sub (p + 1) (by omega) g2).b ((t.at_ : Nat) : Int) d nd h0 h1 h2 h3
     cases hq : behR dp en (ws.drop (p + 1)) d nd with
     | bad a e =>
      rw [hq] at ho hb
      obtain ⟨k, s, ⟨xk, xt, xn, xl, xs, xa⟩, a', rfl⟩ := tok_row t
      simp only [Tok.row, Dt.row, List.cons_append, List.nil_append] at g1
      simp only at c
      rw [ep]
      refine ⟨by omega, _, _, _, _, _, _, _, _, _, g1, ?_⟩
      rw [beq_t, beq_f]
      exact ⟨fun _ => ⟨by omega, _, _, _, _, _, _, _, _, _, g1, .inl ⟨_, hb, ho⟩⟩, fun h => absurd c h⟩
     | ok x n nd1 =>
      rw [hq] at ho hb
      simp only at ho
      obtain ⟨b1, b2, b3, b4, b5⟩ := (hB (p + 1)).b _ _ _ _ _ h2 h3 hq
      rw [hlen] at b2
      have hl := (sub (p + 1 + n) (by omega) (by omega)).sl d nd1 R RX h0 h1 (by omega) b4 (by
       refine ho.shift ?_
       rw [List.drop_drop]
       cases skipR dp en (ws.drop (p + 1 + n)) d nd1 with
       | bad a e => rfl
       | ok u m nd2 => exact ⟨(), _, rfl, rfl, by omega⟩)
      obtain ⟨k, s, ⟨xk, xt, xn, xl, xs, xa⟩, a', rfl⟩ := tok_row t
      obtain ⟨yk, yt, yn, yl, ys, ya⟩ := x
      unfold Con kD at hb
      simp only [Tok.row, Dt.row, List.cons_append, List.nil_append, List.map_cons, List.map_nil] at g1 hb
      simp only at c
      rw [ep]
      refine ⟨by omega, _, _, _, _, _, _, _, _, _, g1, ?_⟩
      rw [beq_t, beq_f]
      exact ⟨fun _ => ⟨by omega, _, _, _, _, _, _, _, _, _, g1, .inr ⟨_, _, _, _, _, _, _, _, _, _, _, hb, hl⟩⟩, fun h => absurd c h⟩
    ·rw [if_neg c] at ho
     obtain ⟨k, s, ⟨xk, xt, xn, xl, xs, xa⟩, a', rfl⟩ := tok_row t
     simp only [Tok.row, Dt.row, List.cons_append, List.nil_append] at g1
     simp only at c
     refine ⟨by omega, _, _, _, _, _, _, _, _, _, g1, ?_⟩
     rw [beq_t, beq_f]
     exact ⟨fun h => absurd h c, fun _ => ho⟩
  have hs : ∀ (d nd : Int), 0 ≤ d → d ≤ dp + 1 → 0 ≤ nd → nd ≤ 8192 → Con ws en dp 40 [rdP, fzI .i64 d] p nd (skipR dp en (ws.drop p) d nd) kS := fun d nd h0 h1 h2 h3 =>
   Con.of (fun R RX => read_reader_skipsO_H R RX d (tkR ws) p en dp nd) (fun r h H => read_reader_skipsO_fn _ _ _ _ _ _ H) (fun x H => read_reader_skipsO_fx _ _ _ _ _ _ H) (fun R RX ho => hsl d nd R RX h0 h1 h2 h3 ho)
  have hdH : p < ws.length → ∀ (d nd : Int) (R : TV → List Ob → Prop) (RX : FV → List Ob → Prop), 0 ≤ d → d ≤ dp + 1 → 0 ≤ nd → nd ≤ 8192 →
    (∀ x n nd', datR dp en (ws.drop p) d nd = .ok x n nd' → R (fzD x) [rdO ws (p + n) en dp nd'] ∧ ∀ k ds a et, x = lsD k ds a → R (.agg [.fz (.int .i64 k), .fz (.str (ByteArray.mk #[])), .fz (.bool false), .ofl 1 1, .ofl 6 2, .fz (.int .i64 a)]) [rdO ws (p + n) en dp nd', .f 0 1 [], .f et 6 (Dt.rows ds)]) →
    (∀ a e, datR dp en (ws.drop p) d nd = .bad a e → RX (flt a e) [rdU]) → read_reader_datumO_H R RX d (tkR ws) p en dp nd := by
   intro hlt d nd R RX h0 h1 h2 h3 hR hX
   obtain ⟨res, hres⟩ : ∃ res, datR dp en (ws.drop p) d nd = res := ⟨_, rfl⟩
   rw [hres] at hR hX
   unfold read_reader_datumO_H
   cases hdr : ws.drop p with
   | nil =>
    have := hlen p
    rw [hdr] at this
    simp at this; omega
   | cons t r =>
    rw [hdr] at hres
    unfold datR at hres
    try simp only at hres
    obtain ⟨g1, g2, rfl⟩ := tkR_get hdr
    have hS := sub (p + 1) (by omega) g2
    obtain ⟨tk, s, ⟨xk, xt, xn, xl, xs, xa⟩, a', rfl⟩ := tok_row t
    simp only [Tok.row, Dt.row, List.cons_append, List.nil_append] at g1
    try simp only at hres
    refine ⟨by omega, _, _, _, _, _, _, _, _, _, g1, ?_⟩
    rw [beq_t, beq_f, beq_t, beq_f]
    by_cases c1 : tk = 2 ∨ tk = 4
    ·rw [if_pos c1] at hres
     subst hres
     exact ⟨fun _ => ⟨_, fail_ok _ _, hX _ _ rfl⟩, fun hn => ⟨fun _ => ⟨_, fail_ok _ _, hX _ _ rfl⟩, fun hn4 => absurd c1 (by omega)⟩⟩
    rw [if_neg c1] at hres
    refine ⟨fun h => absurd (.inl h) c1, fun _ => ⟨fun h => absurd (.inr h) c1, fun _ => ?_⟩⟩
    by_cases c2 : begE dp d nd ≠ 0
    ·rw [if_pos c2] at hres
     subst hres
     exact .inl ⟨_, begin_x ws p en dp nd _ d h2 h3 c2, hX _ _ rfl⟩
    rw [if_neg c2] at hres
    obtain ⟨b1, b2⟩ := begE_zero c2
    refine .inr ⟨_, _, _, _, _, begin_t ws p en dp nd _ d h2 h3 c2, ?_⟩
    have e2 : IntKind.wrap .i64 (d + 1) = d + 1 := w64 (by omega) (by omega)
    rw [beq_t, beq_f, beq_t, beq_f, beq_t, beq_f, ep, e2]
    by_cases c3 : tk = 7
    ·rw [if_pos c3] at hres
     subst hres
     have h7 := (hR _ _ _ rfl).1
     unfold fzD at h7
     simp only [Dt.row, List.map_cons, List.map_nil] at h7
     exact ⟨fun _ => h7, fun h => absurd c3 h⟩
    rw [if_neg c3] at hres
    refine ⟨fun h => absurd h c3, fun _ => ?_⟩
    by_cases c4 : tk = 6
    ·rw [if_pos c4] at hres
     refine ⟨fun _ => ?_, fun h => absurd c4 h⟩
     by_cases c5 : begE dp (d + 1) (nd + 1) ≠ 0
     ·rw [if_pos c5] at hres
      subst hres
      exact .inl ⟨_, begin_x ws (p + 1) en dp (nd + 1) _ (d + 1) (by omega) (by omega) c5, hX _ _ rfl⟩
     rw [if_neg c5] at hres
     obtain ⟨b3, b4⟩ := begE_zero c5
     have e3 : nd + 1 + 1 = nd + 2 := by omega
     have hbt := begin_t ws (p + 1) en dp (nd + 1) ((a' : Nat) : Int) (d + 1) (by omega) (by omega) c5
     rw [e3] at hbt
     refine .inr ⟨_, _, _, _, _, hbt, ?_⟩
     have hb := hS.b ((a' : Nat) : Int) (d + 1) (nd + 2) (by omega) (by omega) (by omega) (by omega)
     cases hq : behR dp en (ws.drop (p + 1)) (d + 1) (nd + 2) with
     | bad a e =>
      rw [hq] at hres hb
      simp only at hres
      subst hres
      exact .inl ⟨_, hb, hX _ _ rfl⟩
     | ok y n nd1 =>
      rw [hq] at hres hb
      simp only at hres
      subst hres
      have h7 := (hR _ _ _ rfl).2 1 [lf 4 s false [] a', y] a' 33 rfl
      obtain ⟨yk, yt, yn, yl, ys, ya⟩ := y
      unfold Con kD at hb
      simp only [lf, Dt.rows, Dt.row, List.map_cons, List.map_nil, ← Nat.add_assoc] at h7 hb
      exact .inr ⟨_, _, _, _, _, _, _, _, _, _, _, hb, h7⟩
    rw [if_neg c4] at hres
    refine ⟨fun h => absurd h c4, fun _ => ?_⟩
    by_cases c6 : tk = 3
    ·rw [if_pos c6] at hres
     refine ⟨fun _ => ?_, fun h => absurd c6 h⟩
     have hb := hS.i (d + 1) true (nd + 1) (by omega) (by omega) (by omega) (by omega)
     cases hq : insR dp en (ws.drop (p + 1)) (d + 1) true [] none (nd + 1) with
     | bad a e =>
      rw [hq] at hres hb
      simp only at hres
      subst hres
      exact .inl ⟨_, hb, hX _ _ rfl⟩
     | ok w n nd1 =>
      rw [hq] at hres hb
      simp only at hres
      subst hres
      have h7 := (hR _ _ _ rfl).2 3 w.1 a' 0 rfl
      obtain ⟨l, tl⟩ := w
      unfold Con kI at hb
      simp only [← Nat.add_assoc] at h7 hb
      cases tl with
      | none => exact .inr (.inl ⟨_, _, _, _, _, _, hb, h7⟩)
      | some y =>
       obtain ⟨yk, yt, yn, yl, ys, ya⟩ := y
       simp only [Dt.row, List.map_cons, List.map_nil] at hb
       exact .inr (.inr ⟨_, _, _, _, _, _, _, _, _, _, _, _, hb, h7⟩)
    ·rw [if_neg c6] at hres
     refine ⟨fun h => absurd h c6, fun _ => ?_⟩
     have hb := hS.i (d + 1) false (nd + 1) (by omega) (by omega) (by omega) (by omega)
     cases hq : insR dp en (ws.drop (p + 1)) (d + 1) false [] none (nd + 1) with
     | bad a e =>
      rw [hq] at hres hb
      simp only at hres
      subst hres
      exact .inl ⟨_, hb, hX _ _ rfl⟩
     | ok w n nd1 =>
      obtain ⟨i1, i2, i3, i4, i5⟩ := (hB (p + 1)).i _ _ _ _ _ _ _ _ (by omega) (by omega) hq
      rw [hlen] at i2
      rw [hq] at hres hb
      simp only at hres
      subst hres
      have h7 := fun k ds h => (hR _ _ _ rfl).2 k ds a' 0 h
      obtain ⟨l, tl⟩ := w
      unfold Con kI at hb
      simp only [← Nat.add_assoc] at h7 hb i5
      cases tl with
      | none => exact .inr (.inl ⟨_, _, _, _, _, _, hb, fun _ => h7 1 l rfl, fun h => (by cases h)⟩)
      | some y =>
       obtain ⟨yk, yt, yn, yl, ys, ya⟩ := y
       simp only [Dt.row, Dt.list, List.map_cons, List.map_nil, List.length_nil] at hb i5
       have hln := rows_len l
       have hyn := rows_len ys
       refine .inr (.inr ⟨_, _, _, _, _, _, _, _, _, _, _, _, hb, fun h => (by cases h), fun _ => ?_⟩)
       rw [hln, hyn, beq_t, beq_f, beq_t, beq_f]
       refine ⟨fun k1 => ⟨by omega, ?_⟩, fun k1 => ⟨fun k2 => ⟨by omega, ?_⟩, fun k2 => ⟨by simp only [List.length_cons, List.length_nil]; omega, ?_⟩⟩⟩
       ·have := h7 yk (l ++ ys) (by simp only [endD, Dt.kind, Dt.list]; exact (if_pos (.inl k1)))
        rw [rows_app] at this
        exact this
       ·have := h7 yk (l ++ ys) (by simp only [endD, Dt.kind, Dt.list]; exact (if_pos (.inr k2)))
        rw [rows_app] at this
        exact this
       ·have := h7 2 (l ++ [.mk yk yt yn yl ys ya]) (by simp only [endD, Dt.kind, Dt.list]; exact (if_neg (by omega)))
        rw [rows_app] at this
        simp only [Dt.rows, Dt.row] at this
        exact this
  have hd : p < ws.length → ∀ (d nd : Int), 0 ≤ d → d ≤ dp + 1 → 0 ≤ nd → nd ≤ 8192 → Con ws en dp 42 [rdP, fzI .i64 d] p nd (datR dp en (ws.drop p) d nd) kD := by
   intro hlt d nd h0 h1 h2 h3
   have H := fun R RX => hdH hlt d nd R RX h0 h1 h2 h3
   generalize datR dp en (ws.drop p) d nd = res at *
   cases res with
   | bad a e =>
    refine read_reader_datumO_fx _ _ _ _ _ _ (H _ _ (fun x n nd' h => by cases h) (fun a' e' h => ?_))
    cases h; exact ⟨rfl, rfl⟩
   | ok x n nd1 =>
    refine read_reader_datumO_fc _ _ _ _ _ _ (H _ _ (fun x' n' nd' h => ?_) (fun a' e' h => by cases h))
    cases h
    refine ⟨?_, fun k ds a et hx => ?_⟩
    ·obtain ⟨yk, yt, yn, yl, ys, ya⟩ := x
     unfold kD fzD
     simp only [Dt.row, List.map_cons, List.map_nil]
     exact ⟨rfl, ⟨.inl rfl, trivial⟩, rfl⟩
    ·subst hx
     unfold kD fzD
     simp only [lsD, tE, Dt.row, List.map_cons, List.map_nil]
     exact ⟨rfl, ⟨.inl rfl, trivial⟩, rfl⟩
  have hdAt : ∀ (n : Nat), p + n < ws.length → ∀ (d nd : Int), 0 ≤ d → d ≤ dp + 1 → 0 ≤ nd → nd ≤ 8192 → Con ws en dp 42 [rdP, fzI .i64 d] (p + n) nd (datR dp en (ws.drop (p + n)) d nd) kD := by
   intro n hn d nd h0 h1 h2 h3
   by_cases e : n = 0
   ·subst e; exact hd hn d nd h0 h1 h2 h3
   ·exact (sub (p + n) (by omega) (by omega)).d hn d nd h0 h1 h2 h3
  have hb : ∀ (a d nd : Int), 0 ≤ d → d ≤ dp + 1 → 0 ≤ nd → nd ≤ 8192 → Con ws en dp 69 [rdP, fzI .i64 a, fzI .i64 d] p nd (behR dp en (ws.drop p) d nd) kD := by
   intro a d nd h0 h1 h2 h3
   refine Con.of (fun R RX => read_reader_behindO_H R RX a d (tkR ws) p en dp nd) (fun r h H => read_reader_behindO_fn _ _ _ _ _ _ _ H) (fun x H => read_reader_behindO_fx _ _ _ _ _ _ _ H) (fun R RX ho => ?_)
   unfold behR at ho
   have hk := hs d nd h0 h1 h2 h3
   unfold read_reader_behindO_H
   cases hq : skipR dp en (ws.drop p) d nd with
   | bad a e =>
    rw [hq] at ho hk
    exact .inl ⟨_, hk, ho⟩
   | ok u n nd1 =>
    rw [hq] at ho hk
    simp only [List.drop_drop] at ho
    obtain ⟨s1, s2, s3⟩ := (hB p).s _ _ _ _ h2 h3 hq
    rw [hlen] at s1
    refine .inr ⟨_, _, _, _, _, hk, _, _, _, _, _, _, rdMore_ok ws (p + n) en dp nd1, ?_⟩
    rw [not_t, not_f]
    cases hdr : ws.drop (p + n) with
    | nil =>
     have hge : ¬ p + n < ws.length := fun h => by
      have := hlen (p + n)
      rw [hdr] at this
      simp at this; omega
     rw [hdr] at ho
     simp only at ho
     rw [decide_eq_false hge]
     exact ⟨fun _ => ⟨_, fail_ok _ _, ho⟩, fun h => (by cases h)⟩
    | cons t r =>
     have hdr2 := hdr
     rw [hdr] at ho
     simp only at ho
     obtain ⟨g1, g2, rfl⟩ := tkR_get hdr
     rw [decide_eq_true g2]
     rw [← hdr2] at ho
     have hD := hdAt n g2 d nd1 h0 h1 (by omega) s3
     obtain ⟨tk, s, ⟨xk, xt, xn, xl, xs, xa⟩, a', rfl⟩ := tok_row t
     simp only [Tok.row, Dt.row, List.cons_append, List.nil_append] at g1
     simp only at ho
     refine ⟨fun h => (by cases h), fun _ => ⟨by omega, _, _, _, _, _, _, _, _, _, g1, ?_⟩⟩
     rw [beq_t, beq_f, beq_t, beq_f]
     by_cases c1 : tk = 2 ∨ tk = 4
     ·rw [if_pos c1] at ho
      exact ⟨fun _ => ⟨by omega, _, _, _, _, _, _, _, _, _, g1, _, fail_ok _ _, ho⟩, fun hn => ⟨fun _ => ⟨by omega, _, _, _, _, _, _, _, _, _, g1, _, fail_ok _ _, ho⟩, fun hn4 => absurd c1 (by omega)⟩⟩
     rw [if_neg c1] at ho
     refine ⟨fun h => absurd (.inl h) c1, fun _ => ⟨fun h => absurd (.inr h) c1, fun _ => ?_⟩⟩
     cases hq2 : datR dp en (ws.drop (p + n)) d nd1 with
     | bad a e =>
      rw [hq2] at ho hD
      exact .inl ⟨_, hD, ho⟩
     | ok x m nd2 =>
      rw [hq2] at ho hD
      obtain ⟨yk, yt, yn, yl, ys, ya⟩ := x
      unfold Outc kD at ho
      unfold Con kD at hD
      simp only [Dt.row, List.map_cons, List.map_nil, ← Nat.add_assoc] at ho hD
      exact .inr ⟨_, _, _, _, _, _, _, _, _, _, _, hD, ho⟩
  refine ⟨hsl, hd, hb, ?_⟩
  intro d v acc tail nd R RX h0 h1 h2 h3 hacc ho
  unfold insR at ho
  have hk := hs d nd h0 h1 h2 h3
  have hal := rows_len acc
  cases tail with
  | none =>
   simp only
   refine read_reader_insideO_l0 ?_
   unfold read_reader_insideO_R0
   cases hq : skipR dp en (ws.drop p) d nd with
   | bad a e =>
    rw [hq] at ho hk
    exact .inl ⟨_, hk, ho⟩
   | ok u n nd1 =>
    rw [hq] at ho hk
    simp only at ho
    obtain ⟨s1, s2, s3⟩ := (hB p).s _ _ _ _ h2 h3 hq
    rw [hlen] at s1
    refine .inr ⟨_, _, _, _, _, hk, _, _, _, _, _, _, rdMore_ok ws (p + n) en dp nd1, ?_⟩
    rw [not_t, not_f]
    split at ho
    ·rename_i hdr
     rw [List.drop_drop] at hdr
     have hge : ¬ p + n < ws.length := fun h => by
      have := hlen (p + n)
      rw [hdr] at this
      simp at this; omega
     rw [decide_eq_false hge]
     exact ⟨fun _ => ⟨_, fail_ok _ _, ho⟩, fun h => (by cases h)⟩
    ·rename_i t r hdr
     rw [List.drop_drop] at hdr ho
     obtain ⟨g1, g2, rfl⟩ := tkR_get hdr
     have en1 := wrapP hw (Nat.le_of_lt g2)
     have hD := hdAt n g2 d nd1 h0 h1 (by omega) s3
     obtain ⟨tk, s, ⟨xk, xt, xn, xl, xs, xa⟩, a', rfl⟩ := tok_row t
     simp only [Tok.row, Dt.row, List.cons_append, List.nil_append] at g1
     simp only at ho
     rw [decide_eq_true g2]
     refine ⟨fun h => (by cases h), fun _ => ⟨by omega, _, _, _, _, _, _, _, _, _, g1, ?_⟩⟩
     rw [beq_t, beq_f, en1]
     by_cases c1 : tk = 2
     ·rw [if_pos c1] at ho
      exact ⟨fun _ => ho, fun h => absurd c1 h⟩
     rw [if_neg c1] at ho
     refine ⟨fun h => absurd h c1, fun _ => ?_⟩
     rw [if_neg (by simp)] at ho
     refine ⟨fun h => (by cases h), fun _ => ?_⟩
     rw [bne_t, bne_f]
     by_cases c3 : tk ≠ 4
     ·rw [if_pos c3] at ho
      refine ⟨fun _ => ?_, fun h => absurd h c3⟩
      cases hq2 : datR dp en (ws.drop (p + n)) d nd1 with
      | bad a e =>
       rw [hq2] at ho hD
       exact .inl ⟨_, hD, ho⟩
      | ok y m nd2 =>
       rw [hq2] at ho hD
       simp only at ho
       obtain ⟨i1, i2, i3, i4, i5⟩ := (hB (p + n)).d _ _ _ _ _ (by omega) s3 hq2
       rw [hlen] at i2
       have hL := (sub (p + n + m) (by omega) (by omega)).il d v (acc ++ [y]) none nd2 R RX h0 h1 (by omega) i4 (by rw [List.length_append, List.length_singleton]; omega) (by
        rw [List.drop_drop, show p + n + 1 + (m - 1) = p + n + m by omega] at ho
        refine ho.shift ?_
        cases insR dp en (ws.drop (p + n + m)) d v (acc ++ [y]) none nd2 with
        | bad a e => rfl
        | ok w k nd3 => exact ⟨w, _, rfl, rfl, by omega⟩)
       obtain ⟨yk, yt, yn, yl, ys, ya⟩ := y
       unfold Con kD at hD
       rw [rows_app] at hL
       simp only [Dt.rows, Dt.row, List.map_cons, List.map_nil] at hD hL
       exact .inr ⟨_, _, _, _, _, _, _, _, _, _, _, hD, by rw [hal]; simp only [List.length_cons, List.length_nil]; omega, hL⟩
     ·rw [if_neg c3] at ho
      refine ⟨fun h => absurd h c3, fun _ => ?_⟩
      rw [hal, beq_t, beq_f]
      by_cases c4 : v = true ∨ acc = []
      ·rw [if_pos c4] at ho
       refine ⟨fun _ => ⟨_, fail_ok _ _, ho⟩, fun hv => ⟨fun _ => ⟨_, fail_ok _ _, ho⟩, fun hn => ?_⟩⟩
       rcases c4 with c4 | c4
       ·rw [hv] at c4; cases c4
       ·rw [c4] at hn; exact absurd rfl hn
      rw [if_neg c4] at ho
      refine ⟨fun h => absurd (.inl h) c4, fun _ => ⟨fun h => absurd (.inr (List.length_eq_zero_iff.1 (by omega))) c4, fun _ => ?_⟩⟩
      have hb2 := (sub (p + n + 1) (by omega) (by omega)).b ((a' : Nat) : Int) d nd1 h0 h1 (by omega) s3
      cases hq2 : behR dp en (ws.drop (p + n + 1)) d nd1 with
      | bad a e =>
       rw [hq2] at ho hb2
       exact .inl ⟨_, hb2, ho⟩
      | ok y m nd2 =>
       rw [hq2] at ho hb2
       simp only at ho
       obtain ⟨i1, i2, i3, i4, i5⟩ := (hB (p + n + 1)).b _ _ _ _ _ (by omega) s3 hq2
       rw [hlen] at i2
       have hL := (sub (p + n + 1 + m) (by omega) (by omega)).il d v acc (some y) nd2 R RX h0 h1 (by omega) i4 (by omega) (by
        rw [List.drop_drop] at ho
        refine ho.shift ?_
        cases insR dp en (ws.drop (p + n + 1 + m)) d v acc (some y) nd2 with
        | bad a e => rfl
        | ok w k nd3 => exact ⟨w, _, rfl, rfl, by omega⟩)
       obtain ⟨yk, yt, yn, yl, ys, ya⟩ := y
       unfold Con kD at hb2
       simp only [Dt.row, List.map_cons, List.map_nil] at hb2 hL
       exact .inr ⟨_, _, _, _, _, _, _, _, _, _, _, hb2, hL⟩
  | some z =>
   obtain ⟨zk, zt, zn, zl, zs, za⟩ := z
   simp only
   refine read_reader_insideO_l1 ?_
   unfold read_reader_insideO_R1
   cases hq : skipR dp en (ws.drop p) d nd with
   | bad a e =>
    rw [hq] at ho hk
    exact .inl ⟨_, hk, ho⟩
   | ok u n nd1 =>
    rw [hq] at ho hk
    simp only at ho
    obtain ⟨s1, s2, s3⟩ := (hB p).s _ _ _ _ h2 h3 hq
    rw [hlen] at s1
    refine .inr ⟨_, _, _, _, _, hk, _, _, _, _, _, _, rdMore_ok ws (p + n) en dp nd1, ?_⟩
    rw [not_t, not_f]
    split at ho
    ·rename_i hdr
     rw [List.drop_drop] at hdr
     have hge : ¬ p + n < ws.length := fun h => by
      have := hlen (p + n)
      rw [hdr] at this
      simp at this; omega
     rw [decide_eq_false hge]
     exact ⟨fun _ => ⟨_, fail_ok _ _, ho⟩, fun h => (by cases h)⟩
    ·rename_i t r hdr
     rw [List.drop_drop] at hdr ho
     obtain ⟨g1, g2, rfl⟩ := tkR_get hdr
     have en1 := wrapP hw (Nat.le_of_lt g2)
     have hD := hdAt n g2 d nd1 h0 h1 (by omega) s3
     obtain ⟨tk, s, ⟨xk, xt, xn, xl, xs, xa⟩, a', rfl⟩ := tok_row t
     simp only [Tok.row, Dt.row, List.cons_append, List.nil_append] at g1
     simp only at ho
     rw [decide_eq_true g2]
     refine ⟨fun h => (by cases h), fun _ => ⟨by omega, _, _, _, _, _, _, _, _, _, g1, ?_⟩⟩
     rw [beq_t, beq_f, en1]
     by_cases c1 : tk = 2
     ·rw [if_pos c1] at ho
      exact ⟨fun _ => ho, fun h => absurd c1 h⟩
     rw [if_neg c1] at ho
     refine ⟨fun h => absurd h c1, fun _ => ?_⟩
     rw [if_pos (by rfl)] at ho
     exact ⟨fun _ => ⟨_, fail_ok _ _, ho⟩, fun h => (by cases h)⟩
end
set_option maxRecDepth 100000
section
def readD0_lv : List Nat → Keep := lvOf []
def readD0_H (R : TV → List Ob → Prop) (a : Int) (e : Int) (l : List (List FV)) : Prop :=
 ((((Bool.not (Bool.not false)) = true) → False) ∧ (((Bool.not (Bool.not false)) = false) → (R (TV.tup []) [(Ob.g 23 [(AV.ofl 6 3)]), (Ob.g 3 [(AV.fz (FV.int .i64 a))]), (Ob.g 24 [(AV.fz (FV.int .i64 e))]), (Ob.f 0 6 l)])))
theorem readD0_fn (a : Int) (e : Int) (l : LL) {h : List Ob} (H : readD0_H (fun _ h' => Wk h' h) a e l) : FnDf Tryz.prog 39 [(TV.one (AV.ptr 0 0 0 23)), (TV.one (AV.ptr 1 0 0 3)), (TV.one (AV.ptr 2 0 0 24))] [(Ob.g 23 [(AV.ofl 6 3)]), (Ob.g 3 [(AV.fz (FV.int .i64 a))]), (Ob.g 24 [(AV.fz (FV.int .i64 e))]), (Ob.f 0 6 l)] none h :=
 FnDf.by_trR (M := (modeOf [] [])) (lv := readD0_lv) (own := (some 4)) (F := Tryz.f39) (by kernel_rfl) (by kernel_rfl) (by first | decide | simp) (fun _ _ h => h) (by kernel_rfl) H
def readDx_lv : List Nat → Keep := lvOf []
def readDx_H (R : TV → List Ob → Prop) (q : Int) (f : Int) : Prop :=
 ((((Bool.not false) = true) → (R (TV.tup []) [(Ob.g 23 [(AV.nsl 6)]), (Ob.g 3 [(AV.fz (FV.int .i64 q))]), (Ob.g 24 [(AV.fz (FV.int .i64 f))])])) ∧ (((Bool.not false) = false) → (R (TV.tup []) [(Ob.g 23 [AV.und]), (Ob.g 3 [AV.und]), (Ob.g 24 [AV.und])])))
theorem readDx_fn (q : Int) (f : Int) {h : List Ob} (H : readDx_H (fun _ h' => Wk h' h) q f) : FnDf Tryz.prog 39 [(TV.one (AV.ptr 0 0 0 23)), (TV.one (AV.ptr 1 0 0 3)), (TV.one (AV.ptr 2 0 0 24))] [(Ob.g 23 [AV.und]), (Ob.g 3 [AV.und]), (Ob.g 24 [AV.und])] (some (FV.ifv 66 true [(FV.int .i64 q), (FV.int .i64 f)])) h :=
 FnDf.by_trR (M := (modeOf [] [])) (lv := readDx_lv) (own := (some 3)) (F := Tryz.f39) (by kernel_rfl) (by kernel_rfl) (by first | decide | simp) (fun _ _ h => h) (by kernel_rfl) H
def read_Read_lv : List Nat → Keep := lvOf [([0, 1, 0, 1, 1, 1, 1, 1, 1, 1, 1], ⟨624, 0, [], false, false⟩)]
def read_Read_S0 (n2 : Int) (n3 : Int) (es2 : LL) (n6 : Int) (n7 : Int) (n8 : Int) (n9 : Int) (o : LL) : St := (St.mk [TV.und, TV.und, TV.und, TV.und, (TV.one (AV.ptr 0 0 0 0)), (TV.one (AV.ptr 1 0 0 0)), (TV.one (AV.ptr 2 0 0 0)), TV.und, TV.und, (TV.one (AV.ptr 3 0 0 0)), TV.und, TV.und, TV.und, TV.und, TV.und, TV.und, TV.und, TV.und, TV.und, TV.und, TV.und, TV.und, TV.und, TV.und, TV.und, TV.und, TV.und, TV.und, TV.und, TV.und, TV.und, TV.und, TV.und, TV.und, TV.und, TV.und, TV.und, TV.und, TV.und, TV.und, TV.und, TV.und, TV.und, TV.und, TV.und, TV.und, TV.und, TV.und, TV.und, TV.und, TV.und, TV.und, TV.und, TV.und, TV.und, TV.und, TV.und] [(Ob.g 23 [(AV.ofl 6 4)]), (Ob.g 3 [(AV.fz (FV.int .i64 n2))]), (Ob.g 24 [(AV.fz (FV.int .i64 n3))]), (Ob.g 70 [(AV.fz (FV.sl 9 es2)), (AV.fz (FV.int .i64 n6)), (AV.fz (FV.int .i64 n7)), (AV.fz (FV.int .i64 n8)), (AV.fz (FV.int .i64 n9))]), (Ob.f 0 6 o)])
def read_Read_L0 (R : TV → List Ob → Prop) (RX : FV → List Ob → Prop) (n2 : Int) (n3 : Int) (es2 : LL) (n6 : Int) (n7 : Int) (n8 : Int) (n9 : Int) (o : LL) : Prop := LoopAtD Tryz.prog (modeX [] [(41, [(Sig.mk 1 [(false, [(AT.k CK.bool)])] [(OT.g 70 [(AT.k (CK.sl 9)), (AT.k (CK.int .i64)), (AT.k (CK.int .i64)), (AT.k (CK.int .i64)), (AT.k (CK.int .i64))])] 0)]), (40, [(Sig.mk 1 [] [(OT.g 70 [(AT.k (CK.sl 9)), (AT.k (CK.int .i64)), (AT.k (CK.int .i64)), (AT.k (CK.int .i64)), (AT.k (CK.int .i64))])] 0)]), (42, [(Sig.mk 1 [(true, [(AT.k (CK.int .i64)), (AT.k CK.str), (AT.k CK.bool), (AT.k (CK.sl 1)), (AT.k (CK.sl 6)), (AT.k (CK.int .i64))])] [(OT.g 70 [(AT.k (CK.sl 9)), (AT.k (CK.int .i64)), (AT.k (CK.int .i64)), (AT.k (CK.int .i64)), (AT.k (CK.int .i64))])] 0)]), (39, [(Sig.mk 3 [] [(OT.g 23 [(AT.a (AV.nsl 6))]), (OT.g 3 [(AT.k (CK.int .i64))]), (OT.g 24 [(AT.k (CK.int .i64))])] 0), (Sig.mk 4 [] [(OT.g 23 [(AT.a (AV.ofl 6 3))]), (OT.g 3 [(AT.k (CK.int .i64))]), (OT.g 24 [(AT.k (CK.int .i64))]), (OT.f 0 6)] 0)])] [40, 42] 0 RX) read_Read_lv Tryz.f15 none R 3 [(39, [(AV.ptr 0 0 0 0), (AV.ptr 1 0 0 0), (AV.ptr 2 0 0 0)])] [1, 1, 1, 1, 1, 1, 1, 1, 0, 1, 0] (read_Read_S0 n2 n3 es2 n6 n7 n8 n9 o)
def read_Read_R0 (R : TV → List Ob → Prop) (RX : FV → List Ob → Prop) (n2 : Int) (n3 : Int) (es2 : LL) (n6 : Int) (n7 : Int) (n8 : Int) (n9 : Int) (o : LL) : Prop :=
 (∃ es15 : LL, (∃ n50 : Int, (∃ n51 : Int, (∃ n52 : Int, (∃ n53 : Int, (∃ b5 : Bool, ((Fn Tryz.prog 41 [(TV.one (AV.ptr 0 0 0 0))] [(Ob.g 70 [(AV.fz (FV.sl 9 es2)), (AV.fz (FV.int .i64 n6)), (AV.fz (FV.int .i64 n7)), (AV.fz (FV.int .i64 n8)), (AV.fz (FV.int .i64 n9))])] (TV.one (AV.fz (FV.bool b5))) [(Ob.g 70 [(AV.fz (FV.sl 9 es15)), (AV.fz (FV.int .i64 n50)), (AV.fz (FV.int .i64 n51)), (AV.fz (FV.int .i64 n52)), (AV.fz (FV.int .i64 n53))])]) ∧ (((b5 = true) → ((∃ v5 : FV, ((FnX Tryz.prog 42 [(TV.one (AV.ptr 0 0 0 0)), (TV.one (AV.fz (FV.int .i64 1)))] [(Ob.g 70 [(AV.fz (FV.sl 9 es15)), (AV.fz (FV.int .i64 n50)), (AV.fz (FV.int .i64 n51)), (AV.fz (FV.int .i64 n52)), (AV.fz (FV.int .i64 n53))])] v5) ∧ (∃ n54 : Int, (∃ n55 : Int, ((FnDf Tryz.prog 39 [(TV.one (AV.ptr 0 0 0 0)), (TV.one (AV.ptr 1 0 0 0)), (TV.one (AV.ptr 2 0 0 0))] [(Ob.g 23 [AV.und]), (Ob.g 3 [AV.und]), (Ob.g 24 [AV.und])] (some v5) [(Ob.g 23 [(AV.nsl 6)]), (Ob.g 3 [(AV.fz (FV.int .i64 n54))]), (Ob.g 24 [(AV.fz (FV.int .i64 n55))])]) ∧ (R (TV.tup [(false, [(AV.fz (FV.sl 6 ([] : LL)))]), (false, [(AV.fz (FV.int .i64 n54))]), (false, [(AV.fz (FV.int .i64 n55))])]) [])))))) ∨ (∃ es16 : LL, (∃ n56 : Int, (∃ n57 : Int, (∃ n58 : Int, (∃ n59 : Int, (∃ n60 : Int, (∃ s2 : ByteArray, (∃ b6 : Bool, (∃ es17 : LL, (∃ es18 : LL, (∃ n61 : Int, ((Fn Tryz.prog 42 [(TV.one (AV.ptr 0 0 0 0)), (TV.one (AV.fz (FV.int .i64 1)))] [(Ob.g 70 [(AV.fz (FV.sl 9 es15)), (AV.fz (FV.int .i64 n50)), (AV.fz (FV.int .i64 n51)), (AV.fz (FV.int .i64 n52)), (AV.fz (FV.int .i64 n53))])] (TV.agg [(AV.fz (FV.int .i64 n60)), (AV.fz (FV.str s2)), (AV.fz (FV.bool b6)), (AV.fz (FV.sl 1 es17)), (AV.fz (FV.sl 6 es18)), (AV.fz (FV.int .i64 n61))]) [(Ob.g 70 [(AV.fz (FV.sl 9 es16)), (AV.fz (FV.int .i64 n56)), (AV.fz (FV.int .i64 n57)), (AV.fz (FV.int .i64 n58)), (AV.fz (FV.int .i64 n59))])]) ∧ (((((List.length o) + (List.length [[(FV.int .i64 0), (FV.str (ByteArray.mk #[])), (FV.bool false), (FV.sl 1 ([] : LL)), (FV.sl 6 ([] : LL)), (FV.int .i64 0)]])) * 88) ≤ 220000000000000) ∧ ((((0 : Int) ≤ (((List.length o) : Nat) : Int)) ∧ ((((List.length o) : Nat) : Int) < (((List.length (o ++ [[(FV.int .i64 0), (FV.str (ByteArray.mk #[])), (FV.bool false), (FV.sl 1 ([] : LL)), (FV.sl 6 ([] : LL)), (FV.int .i64 0)]])) : Nat) : Int))) ∧ (((Int.toNat (((List.length o) : Nat) : Int)) < (List.length (o ++ [[(FV.int .i64 0), (FV.str (ByteArray.mk #[])), (FV.bool false), (FV.sl 1 ([] : LL)), (FV.sl 6 ([] : LL)), (FV.int .i64 0)]]))) ∧ ((∃ v6 : FV, ((FnX Tryz.prog 40 [(TV.one (AV.ptr 0 0 0 0)), (TV.one (AV.fz (FV.int .i64 1)))] [(Ob.g 70 [(AV.fz (FV.sl 9 es16)), (AV.fz (FV.int .i64 n56)), (AV.fz (FV.int .i64 n57)), (AV.fz (FV.int .i64 n58)), (AV.fz (FV.int .i64 n59))])] v6) ∧ (∃ n62 : Int, (∃ n63 : Int, ((FnDf Tryz.prog 39 [(TV.one (AV.ptr 0 0 0 0)), (TV.one (AV.ptr 1 0 0 0)), (TV.one (AV.ptr 2 0 0 0))] [(Ob.g 23 [AV.und]), (Ob.g 3 [AV.und]), (Ob.g 24 [AV.und])] (some v6) [(Ob.g 23 [(AV.nsl 6)]), (Ob.g 3 [(AV.fz (FV.int .i64 n62))]), (Ob.g 24 [(AV.fz (FV.int .i64 n63))])]) ∧ (R (TV.tup [(false, [(AV.fz (FV.sl 6 ([] : LL)))]), (false, [(AV.fz (FV.int .i64 n62))]), (false, [(AV.fz (FV.int .i64 n63))])]) [])))))) ∨ (∃ es19 : LL, (∃ n64 : Int, (∃ n65 : Int, (∃ n66 : Int, (∃ n67 : Int, ((Fn Tryz.prog 40 [(TV.one (AV.ptr 0 0 0 0)), (TV.one (AV.fz (FV.int .i64 1)))] [(Ob.g 70 [(AV.fz (FV.sl 9 es16)), (AV.fz (FV.int .i64 n56)), (AV.fz (FV.int .i64 n57)), (AV.fz (FV.int .i64 n58)), (AV.fz (FV.int .i64 n59))])] (TV.tup []) [(Ob.g 70 [(AV.fz (FV.sl 9 es19)), (AV.fz (FV.int .i64 n64)), (AV.fz (FV.int .i64 n65)), (AV.fz (FV.int .i64 n66)), (AV.fz (FV.int .i64 n67))])]) ∧ (read_Read_L0 R RX n2 n3 es19 n64 n65 n66 n67 (List.set (o ++ [[(FV.int .i64 0), (FV.str (ByteArray.mk #[])), (FV.bool false), (FV.sl 1 ([] : LL)), (FV.sl 6 ([] : LL)), (FV.int .i64 0)]]) (Int.toNat (((List.length o) : Nat) : Int)) [(FV.int .i64 n60), (FV.str s2), (FV.bool b6), (FV.sl 1 es17), (FV.sl 6 es18), (FV.int .i64 n61)])))))))))))))))))))))))))) ∧ ((b5 = false) → (∃ n68 : Int, (∃ n69 : Int, (∃ es20 : LL, ((FnDf Tryz.prog 39 [(TV.one (AV.ptr 0 0 0 0)), (TV.one (AV.ptr 1 0 0 0)), (TV.one (AV.ptr 2 0 0 0))] [(Ob.g 23 [(AV.ofl 6 3)]), (Ob.g 3 [(AV.fz (FV.int .i64 0))]), (Ob.g 24 [(AV.fz (FV.int .i64 0))]), (Ob.f 0 6 o)] none [(Ob.g 23 [(AV.ofl 6 3)]), (Ob.g 3 [(AV.fz (FV.int .i64 n68))]), (Ob.g 24 [(AV.fz (FV.int .i64 n69))]), (Ob.f 0 6 es20)]) ∧ (R (TV.tup [(false, [(AV.fz (FV.sl 6 es20))]), (false, [(AV.fz (FV.int .i64 n68))]), (false, [(AV.fz (FV.int .i64 n69))])]) []))))))))))))))
theorem read_Read_l0 {R : TV → List Ob → Prop} {RX : FV → List Ob → Prop} {n2 : Int} {n3 : Int} {es2 : LL} {n6 : Int} {n7 : Int} {n8 : Int} {n9 : Int} {o : LL} (h : read_Read_R0 R RX n2 n3 es2 n6 n7 n8 n9 o) : read_Read_L0 R RX n2 n3 es2 n6 n7 n8 n9 o :=
 LoopAtD.by_tr (by kernel_rfl) (by kernel_rfl) h
def read_Read_H (R : TV → List Ob → Prop) (RX : FV → List Ob → Prop) (b : List (List FV)) (depth : Int) : Prop :=
 ((((decide (depth < 1)) = true) → (R (TV.tup [(false, [(AV.fz (FV.sl 6 ([] : LL)))]), (false, [(AV.fz (FV.int .i64 0))]), (false, [(AV.fz (FV.int .i64 1))])]) [])) ∧ (((decide (depth < 1)) = false) → ((((decide ((64 : Int) < depth)) = true) → (R (TV.tup [(false, [(AV.fz (FV.sl 6 ([] : LL)))]), (false, [(AV.fz (FV.int .i64 0))]), (false, [(AV.fz (FV.int .i64 1))])]) [])) ∧ (((decide ((64 : Int) < depth)) = false) → (∃ es15 : LL, (∃ n50 : Int, (∃ n51 : Int, ((Fn Tryz.prog 37 [(TV.one (AV.fz (FV.sl 1 b)))] [] (TV.tup [(false, [(AV.fz (FV.sl 1 es15))]), (false, [(AV.fz (FV.int .i64 n50))]), (false, [(AV.fz (FV.int .i64 n51))])]) []) ∧ ((((n51 != 0) = true) → (R (TV.tup [(false, [(AV.fz (FV.sl 6 ([] : LL)))]), (false, [(AV.fz (FV.int .i64 n50))]), (false, [(AV.fz (FV.int .i64 n51))])]) [])) ∧ (((n51 != 0) = false) → (∃ es16 : LL, (∃ n52 : Int, (∃ n53 : Int, ((Fn Tryz.prog 38 [(TV.one (AV.fz (FV.sl 1 es15)))] [] (TV.tup [(false, [(AV.fz (FV.sl 9 es16))]), (false, [(AV.fz (FV.int .i64 n52))]), (false, [(AV.fz (FV.int .i64 n53))])]) []) ∧ ((((n53 != 0) = true) → (R (TV.tup [(false, [(AV.fz (FV.sl 6 ([] : LL)))]), (false, [(AV.fz (FV.int .i64 n52))]), (false, [(AV.fz (FV.int .i64 n53))])]) [])) ∧ (((n53 != 0) = false) → ((∃ v5 : FV, ((FnX Tryz.prog 40 [(TV.one (AV.ptr 0 0 0 0)), (TV.one (AV.fz (FV.int .i64 1)))] [(Ob.g 70 [(AV.fz (FV.sl 9 es16)), (AV.fz (FV.int .i64 0)), (AV.fz (FV.int .i64 (((List.length es15) : Nat) : Int))), (AV.fz (FV.int .i64 depth)), (AV.fz (FV.int .i64 0))])] v5) ∧ (∃ n54 : Int, (∃ n55 : Int, ((FnDf Tryz.prog 39 [(TV.one (AV.ptr 0 0 0 0)), (TV.one (AV.ptr 1 0 0 0)), (TV.one (AV.ptr 2 0 0 0))] [(Ob.g 23 [AV.und]), (Ob.g 3 [AV.und]), (Ob.g 24 [AV.und])] (some v5) [(Ob.g 23 [(AV.nsl 6)]), (Ob.g 3 [(AV.fz (FV.int .i64 n54))]), (Ob.g 24 [(AV.fz (FV.int .i64 n55))])]) ∧ (R (TV.tup [(false, [(AV.fz (FV.sl 6 ([] : LL)))]), (false, [(AV.fz (FV.int .i64 n54))]), (false, [(AV.fz (FV.int .i64 n55))])]) [])))))) ∨ (∃ es17 : LL, (∃ n56 : Int, (∃ n57 : Int, (∃ n58 : Int, (∃ n59 : Int, ((Fn Tryz.prog 40 [(TV.one (AV.ptr 0 0 0 0)), (TV.one (AV.fz (FV.int .i64 1)))] [(Ob.g 70 [(AV.fz (FV.sl 9 es16)), (AV.fz (FV.int .i64 0)), (AV.fz (FV.int .i64 (((List.length es15) : Nat) : Int))), (AV.fz (FV.int .i64 depth)), (AV.fz (FV.int .i64 0))])] (TV.tup []) [(Ob.g 70 [(AV.fz (FV.sl 9 es17)), (AV.fz (FV.int .i64 n56)), (AV.fz (FV.int .i64 n57)), (AV.fz (FV.int .i64 n58)), (AV.fz (FV.int .i64 n59))])]) ∧ (read_Read_L0 R RX n52 n53 es17 n56 n57 n58 n59 ([] : LL)))))))))))))))))))))))))
theorem read_Read_fn (b : LL) (depth : Int) {r : TV} {h : List Ob} (H : read_Read_H (fun r' h' => r' = r ∧ Wk h' h) (fun _ _ => False) b depth) : Fn Tryz.prog 15 [(TV.one (AV.fz (FV.sl 1 b))), (TV.one (AV.fz (FV.int .i64 depth)))] [] r h :=
 Fn.by_trD (M := (modeX [] [(41, [(Sig.mk 1 [(false, [(AT.k CK.bool)])] [(OT.g 70 [(AT.k (CK.sl 9)), (AT.k (CK.int .i64)), (AT.k (CK.int .i64)), (AT.k (CK.int .i64)), (AT.k (CK.int .i64))])] 0)]), (40, [(Sig.mk 1 [] [(OT.g 70 [(AT.k (CK.sl 9)), (AT.k (CK.int .i64)), (AT.k (CK.int .i64)), (AT.k (CK.int .i64)), (AT.k (CK.int .i64))])] 0)]), (42, [(Sig.mk 1 [(true, [(AT.k (CK.int .i64)), (AT.k CK.str), (AT.k CK.bool), (AT.k (CK.sl 1)), (AT.k (CK.sl 6)), (AT.k (CK.int .i64))])] [(OT.g 70 [(AT.k (CK.sl 9)), (AT.k (CK.int .i64)), (AT.k (CK.int .i64)), (AT.k (CK.int .i64)), (AT.k (CK.int .i64))])] 0)]), (39, [(Sig.mk 3 [] [(OT.g 23 [(AT.a (AV.nsl 6))]), (OT.g 3 [(AT.k (CK.int .i64))]), (OT.g 24 [(AT.k (CK.int .i64))])] 0), (Sig.mk 4 [] [(OT.g 23 [(AT.a (AV.ofl 6 3))]), (OT.g 3 [(AT.k (CK.int .i64))]), (OT.g 24 [(AT.k (CK.int .i64))]), (OT.f 0 6)] 0)])] [40, 42] 0 (fun _ _ => False))) (lv := read_Read_lv) (own := none) (n := 3) (F := Tryz.f15) (by kernel_rfl) (by kernel_rfl) (by first | decide | simp) (by kernel_rfl) H
end
section
def topR (dp en : Int) (ts : List Tok) (nd : Int) (acc : List Dt) : RdR (List Dt) :=
 match ts with
 | [] => .ok acc 0 nd
 | t :: r =>
  match datR dp en (t :: r) 1 nd with
  | .bad a e => .bad a e
  | .ok x m nd1 =>
   match skipR dp en (r.drop (m - 1)) 1 nd1 with
   | .bad a e => .bad a e
   | .ok _ k nd2 => topR dp en (r.drop (m - 1 + k)) nd2 (acc ++ [x])
termination_by ts.length
decreasing_by simp_wf; omega
def readW (dp en : Int) (ts : List Tok) : RdR (List Dt) :=
 match skipR dp en ts 1 0 with
 | .bad a e => .bad a e
 | .ok _ n nd => topR dp en (ts.drop n) nd []
def resR : RdR (List Dt) → List Dt × Int × Int
 | .ok l _ _ => (l, 0, 0)
 | .bad a e => ([], a, e)
def readV (b : List Int) (dp : Int) : List Dt × Int × Int :=
 if dp < 1 ∨ 64 < dp then ([], 0, 1)
 else if decE b ≠ 0 then ([], decA b, decE b)
 else if (scanV (decL b)).2.2 ≠ 0 then ([], (scanV (decL b)).2.1, (scanV (decL b)).2.2)
 else resR (readW dp ((decL b).length : Nat) (scanV (decL b)).1)
theorem nextV_plain {t : List Int} {p : Nat} {x : Tok} {e : Nat} (h : nextV t p = some (x, e)) : x.d.list = [] := by
 unfold nextV at h
 split at h
 ·cases h; rfl
 ·split at h
  ·cases h; rfl
  ·cases h
theorem scanL_plain : ∀ (f : Nat) (t : List Int) (p : Nat) (acc : List Tok), Plain acc → Plain (scanL f t p acc).1
 | 0, t, p, acc, h => by unfold scanL; intro x hx; cases hx
 | f + 1, t, p, acc, h => by
  unfold scanL
  split
  ·exact h
  ·split
   ·rename_i tok e hn
    refine scanL_plain f t e _ (fun x hx => ?_)
    rcases List.mem_append.1 hx with hx | hx
    ·exact h x hx
    ·simp only [List.mem_singleton] at hx
     rw [hx]; exact nextV_plain hn
   ·intro x hx; cases hx
theorem scanV_plain (t : List Int) : Plain (scanV t).1 := by
 unfold scanV
 split
 ·intro x hx; cases hx
 ·exact scanL_plain _ _ _ _ (fun x hx => by cases hx)
theorem scanL_len : ∀ (f : Nat) (t : List Int) (p : Nat) (acc : List Tok), p ≤ t.length → acc.length ≤ p → (scanL f t p acc).1.length ≤ t.length
 | 0, t, p, acc, _, _ => by unfold scanL; simp
 | f + 1, t, p, acc, hp, ha => by
  have hb := blC_le false (t.drop p)
  rw [List.length_drop] at hb
  unfold scanL
  split
  ·simp only; omega
  ·split
   ·rename_i tok e hn
    have hle := nextV_le (by omega) hn
    exact scanL_len f t e _ (by omega) (by simp; omega)
   ·simp
theorem scanV_len (t : List Int) : (scanV t).1.length ≤ t.length := by
 unfold scanV
 split
 ·simp
 ·exact scanL_len _ _ _ _ (by omega) (by simp)
theorem readDx_ok (a e : Int) : FnDf Tryz.prog 39 [.one (.ptr 0 0 0 0), .one (.ptr 1 0 0 0), .one (.ptr 2 0 0 0)] [.g 23 [.und], .g 3 [.und], .g 24 [.und]] (some (flt a e))
  [.g 23 [.nsl 6], .g 3 [.fz (.int .i64 a)], .g 24 [.fz (.int .i64 e)]] := by
 have := readDx_fn a e (h := [.g 23 [.nsl 6], .g 3 [.fz (.int .i64 a)], .g 24 [.fz (.int .i64 e)]]) ⟨fun _ => Wk.refl _, fun h => absurd h (by decide)⟩
 exact FnC.ptr3 this
theorem readD0_ok (l : List (List FV)) : FnDf Tryz.prog 39 [.one (.ptr 0 0 0 0), .one (.ptr 1 0 0 0), .one (.ptr 2 0 0 0)] [.g 23 [.ofl 6 3], .g 3 [.fz (.int .i64 0)], .g 24 [.fz (.int .i64 0)], .f 0 6 l] none
  [.g 23 [.ofl 6 3], .g 3 [.fz (.int .i64 0)], .g 24 [.fz (.int .i64 0)], .f 0 6 l] := by
 have := readD0_fn 0 0 l (h := [.g 23 [.ofl 6 3], .g 3 [.fz (.int .i64 0)], .g 24 [.fz (.int .i64 0)], .f 0 6 l]) ⟨fun h => absurd h (by decide), fun _ => Wk.refl _⟩
 exact FnC.ptr3 this
abbrev rdT (x : List Dt × Int × Int) : TV := .tup [(false, [.fz (.sl 6 (Dt.rows x.1))]), (false, [.fz (.int .i64 x.2.1)]), (false, [.fz (.int .i64 x.2.2)])]
theorem set_snoc {α : Type} (l : List α) (a b : α) : (l ++ [a]).set l.length b = l ++ [b] := by
 rw [List.set_append_right _ _ (Nat.le_refl _)]; simp
theorem read_loop {ws : List Tok} {en dp : Int} (hw : ws.length ≤ 100000000) (hpl : Plain ws) (hd0 : 1 ≤ dp) (hd1 : dp ≤ 64) (n2 n3 : Int) (R : TV → List Ob → Prop) (RX : FV → List Ob → Prop) : ∀ (N p : Nat) (nd : Int) (acc : List Dt), ws.length - p = N → p ≤ ws.length → 0 ≤ nd → nd ≤ 8192 → acc.length ≤ p →
  R (rdT (resR (topR dp en (ws.drop p) nd acc))) [] → read_Read_L0 R RX n2 n3 (tkR ws) p en dp nd (Dt.rows acc) := by
 intro N
 induction N using Nat.strongRecOn with
 | _ N ih =>
  intro p nd acc hN hp h2 h3 hacc hR
  have hW : ∀ q, q ≤ ws.length → RdW ws en dp q := fun q hq => rdW_all hw hpl (by omega) hd1 _ q rfl hq
  have hB : ∀ q, RdB dp en (ws.drop q) := fun q => rdB_all dp en _ _ rfl (hpl.drop q)
  have hal := rows_len acc
  unfold topR at hR
  refine read_Read_l0 ?_
  unfold read_Read_R0
  refine ⟨_, _, _, _, _, _, FnC.ptr1 0 (rdMore_ok ws p en dp nd), ?_⟩
  cases hdr : ws.drop p with
  | nil =>
   have hge : ¬ p < ws.length := fun h => by
    have : (ws.drop p).length = ws.length - p := List.length_drop
    rw [hdr] at this
    simp at this; omega
   rw [hdr] at hR
   simp only [resR] at hR
   rw [decide_eq_false hge]
   exact ⟨fun h => (by cases h), fun _ => ⟨_, _, _, readD0_ok _, hR⟩⟩
  | cons t r =>
   obtain ⟨g1, g2, hr⟩ := tkR_get hdr
   rw [hdr] at hR
   simp only at hR
   rw [← hdr] at hR
   rw [decide_eq_true g2]
   refine ⟨fun _ => ?_, fun h => (by cases h)⟩
   have hD := (hW p hp).d g2 1 nd (by omega) (by omega) h2 h3
   cases hq : datR dp en (ws.drop p) 1 nd with
   | bad a e =>
    rw [hq] at hR hD
    exact .inl ⟨_, FnC.ptr1 0 hD, _, _, readDx_ok a e, hR⟩
   | ok x m nd1 =>
    rw [hq] at hR hD
    simp only at hR
    obtain ⟨i1, i2, i3, i4, _⟩ := (hB p).d _ _ _ _ _ h2 h3 hq
    rw [List.length_drop] at i2
    have hS := (hW (p + m) (by omega)).s 1 nd1 (by omega) (by omega) (by omega) i4
    subst hr
    rw [List.drop_drop, show p + 1 + (m - 1) = p + m by omega] at hR
    obtain ⟨yk, yt, yn, yl, ys, ya⟩ := x
    unfold Con kD at hD
    simp only [Dt.row, List.map_cons, List.map_nil] at hD
    cases hk : skipR dp en (ws.drop (p + m)) 1 nd1 with
    | bad a e =>
     rw [hk] at hR hS
     exact .inr ⟨_, _, _, _, _, _, _, _, _, _, _, FnC.ptr1 0 hD, by rw [hal]; simp only [List.length_cons, List.length_nil]; omega, ⟨by omega, by rw [List.length_append]; simp only [List.length_cons, List.length_nil]; omega⟩, by rw [List.length_append, Int.toNat_natCast]; simp only [List.length_cons, List.length_nil]; omega, .inl ⟨_, FnC.ptr1 0 hS, _, _, readDx_ok a e, hR⟩⟩
    | ok u k nd2 =>
     rw [hk] at hR hS
     simp only at hR
     obtain ⟨j1, j2, j3⟩ := (hB (p + m)).s _ _ _ _ (by omega) i4 hk
     rw [List.length_drop] at j1
     rw [List.drop_drop, show p + 1 + (m - 1 + k) = p + m + k by omega] at hR
     have hL := ih (ws.length - (p + m + k)) (by omega) (p + m + k) nd2 (acc ++ [.mk yk yt yn yl ys ya]) rfl (by omega) (by omega) j3 (by rw [List.length_append, List.length_singleton]; omega) hR
     rw [rows_app] at hL
     simp only [Dt.rows, Dt.row] at hL
     refine .inr ⟨_, _, _, _, _, _, _, _, _, _, _, FnC.ptr1 0 hD, by rw [hal]; simp only [List.length_cons, List.length_nil]; omega, ⟨by omega, by rw [List.length_append]; simp only [List.length_cons, List.length_nil]; omega⟩, by rw [List.length_append, Int.toNat_natCast]; simp only [List.length_cons, List.length_nil]; omega, .inr ⟨_, _, _, _, _, FnC.ptr1 0 hS, ?_⟩⟩
     rw [Int.toNat_natCast, set_snoc]
     exact hL
theorem chs_len2 (b : List Int) : (chars b).1.length ≤ b.length + 1 := chars_len b
theorem Read_ok (b : List Int) (hb : Bytes b) (dp : Int) : Fn Tryz.prog 15 [fzS .u8 b, fzI .i64 dp] [] (rdT (readV b dp)) [] := by
 refine read_Read_fn _ _ ?_
 obtain ⟨R, hR, hRe⟩ := exW (rdT (readV b dp)) []; rw [hRe]; clear hRe
 have hR := hR _ (Wk.refl _)
 unfold readV at hR
 unfold read_Read_H
 rw [dec_t, dec_f, dec_t, dec_f]
 by_cases c1 : dp < 1 ∨ 64 < dp
 ·rw [if_pos c1] at hR
  have hR : R (.tup [(false, [.fz (.sl 6 [])]), (false, [.fz (.int .i64 0)]), (false, [.fz (.int .i64 1)])]) [] := hR
  exact ⟨fun _ => hR, fun h1 => ⟨fun _ => hR, fun h2 => absurd c1 (by omega)⟩⟩
 rw [if_neg c1] at hR
 refine ⟨fun h => absurd (.inl h) c1, fun _ => ⟨fun h => absurd (.inr h) c1, fun _ => ⟨_, _, _, utfDecode_ok b hb, ?_⟩⟩⟩
 rw [bne_t, bne_f]
 by_cases c2 : decE b ≠ 0
 ·rw [if_pos c2] at hR
  have hR : R (.tup [(false, [.fz (.sl 6 [])]), (false, [.fz (.int .i64 (decA b))]), (false, [.fz (.int .i64 (decE b))])]) [] := hR
  exact ⟨fun _ => hR, fun h => absurd h c2⟩
 rw [if_neg c2] at hR
 have hdl : (decL b).length ≤ 65537 := by
  unfold decL
  split
  ·simp
  ·split
   ·have := chs_len2 b
    omega
   ·simp
 refine ⟨fun h => absurd h c2, fun _ => ⟨_, _, _, tScan_ok (decL b) (by omega), ?_⟩⟩
 rw [bne_t, bne_f]
 by_cases c3 : (scanV (decL b)).2.2 ≠ 0
 ·rw [if_pos c3] at hR
  have hR : R (.tup [(false, [.fz (.sl 6 [])]), (false, [.fz (.int .i64 (scanV (decL b)).2.1)]), (false, [.fz (.int .i64 (scanV (decL b)).2.2)])]) [] := hR
  exact ⟨fun _ => hR, fun h => absurd h c3⟩
 rw [if_neg c3] at hR
 refine ⟨fun h => absurd h c3, fun _ => ?_⟩
 have hl := scanV_len (decL b)
 have hpl := scanV_plain (decL b)
 have hil := ints_len .i64 (decL b)
 rw [hil]
 generalize (scanV (decL b)).1 = ws at *
 generalize (((decL b).length : Nat) : Int) = en at *
 have hW : ∀ q, q ≤ ws.length → RdW ws en dp q := fun q hq => rdW_all (by omega) hpl (by omega) (by omega) _ q rfl hq
 have hS := (hW 0 (by omega)).s 1 0 (by omega) (by omega) (by omega) (by omega)
 unfold readW at hR
 rw [List.drop_zero] at hS
 cases hk : skipR dp en ws 1 0 with
 | bad a e =>
  rw [hk] at hR hS
  exact .inl ⟨_, FnC.ptr1 0 hS, _, _, readDx_ok a e, hR⟩
 | ok u n nd =>
  rw [hk] at hR hS
  obtain ⟨j1, j2, j3⟩ := (rdB_all dp en _ ws rfl hpl).s _ _ _ _ (by omega) (by omega) hk
  have hL := fun n2 n3 RX => read_loop (by omega) hpl (by omega) (by omega) n2 n3 R RX _ n nd [] rfl j1 (by omega) j3 (by simp) hR
  simp only [Dt.rows] at hL
  have hS : Fn Tryz.prog 40 [rdP, fzI .i64 1] [rdO ws 0 en dp 0] (.tup []) [rdO ws (0 + n) en dp nd] := hS
  rw [Nat.zero_add] at hS
  exact .inr ⟨_, _, _, _, _, FnC.ptr1 0 hS, hL _ _ _⟩
end
set_option maxRecDepth 100000
section
def law04_answers_lv : List Nat → Keep := lvOf []
def law04_answers_H (R : TV → List Ob → Prop)  : Prop :=
 ((0 < (List.length [[(FV.int .u8 40)], [(FV.int .u8 97)], [(FV.int .u8 32)], [(FV.int .u8 46)], [(FV.int .u8 32)], [(FV.int .u8 40)], [(FV.int .u8 98)], [(FV.int .u8 41)], [(FV.int .u8 41)]])) ∧ (∃ es5 : LL, (∃ n6 : Int, (∃ n7 : Int, ((Fn Tryz.prog 15 [(TV.one (AV.fz (FV.sl 1 [[(FV.int .u8 40)], [(FV.int .u8 97)], [(FV.int .u8 32)], [(FV.int .u8 46)], [(FV.int .u8 32)], [(FV.int .u8 40)], [(FV.int .u8 98)], [(FV.int .u8 41)], [(FV.int .u8 41)]]))), (TV.one (AV.fz (FV.int .i64 5)))] [] (TV.tup [(false, [(AV.fz (FV.sl 6 es5))]), (false, [(AV.fz (FV.int .i64 n6))]), (false, [(AV.fz (FV.int .i64 n7))])]) []) ∧ ((((n7 == 0) = true) → (((((((List.length es5) : Nat) : Int) == 1) = true) → (((0 : Int) ≤ 0) ∧ (∃ n8 : Int, (∃ s2 : ByteArray, (∃ b2 : Bool, (∃ es6 : LL, (∃ es7 : LL, (∃ n9 : Int, (((es5)[(Int.toNat 0)]? = (some [(FV.int .i64 n8), (FV.str s2), (FV.bool b2), (FV.sl 1 es6), (FV.sl 6 es7), (FV.int .i64 n9)])) ∧ ((((n8 == 1) = true) → (((0 : Int) ≤ 0) ∧ (∃ n10 : Int, (∃ s3 : ByteArray, (∃ b3 : Bool, (∃ es8 : LL, (∃ es9 : LL, (∃ n11 : Int, (((es5)[(Int.toNat 0)]? = (some [(FV.int .i64 n10), (FV.str s3), (FV.bool b3), (FV.sl 1 es8), (FV.sl 6 es9), (FV.int .i64 n11)])) ∧ (R (TV.one (AV.fz (FV.bool ((((List.length es9) : Nat) : Int) == 2)))) [])))))))))) ∧ (((n8 == 1) = false) → (R (TV.one (AV.fz (FV.bool false))) [])))))))))))) ∧ ((((((List.length es5) : Nat) : Int) == 1) = false) → (R (TV.one (AV.fz (FV.bool false))) [])))) ∧ (((n7 == 0) = false) → (R (TV.one (AV.fz (FV.bool false))) []))))))))
theorem law04_answers_fn  {r : TV} {h : List Ob} (H : law04_answers_H (fun r' h' => r' = r ∧ h' = h) ) : Fn Tryz.prog 16 [] [] r h :=
 Fn.by_tr (M := (modeOf [] [])) (lv := law04_answers_lv) (own := none) (F := Tryz.f16) (by kernel_rfl) (by kernel_rfl) (by first | decide | simp) (fun _ _ h => h) (by kernel_rfl) H
def law04_own_lv : List Nat → Keep := lvOf [([0, 1, 0, 1, 1, 1], ⟨30, 0, [], false, false⟩)]
def law04_own_S0 (d0 : Int) (d1 : ByteArray) (d2 : Bool) (d3 : LL) (d4 : LL) (d5 : Int) (i : Int) (o : LL) : St := (St.mk [TV.und, (TV.one (AV.ptr 0 0 0 0)), (TV.one (AV.ptr 1 0 0 0)), (TV.one (AV.ofl 6 2)), (TV.one (AV.fz (FV.int .i64 i))), TV.und, TV.und, TV.und, TV.und, TV.und, TV.und, TV.und, TV.und, TV.und, TV.und, TV.und, TV.und, TV.und, TV.und, TV.und, TV.und, TV.und, TV.und, TV.und, TV.und, TV.und, TV.und, TV.und, TV.und, TV.und, TV.und] [(Ob.g 33 [(AV.fz (FV.int .i64 d0)), (AV.fz (FV.str d1)), (AV.fz (FV.bool d2)), (AV.ofl 1 3), (AV.fz (FV.sl 6 d4)), (AV.fz (FV.int .i64 d5))]), (Ob.g 33 [(AV.fz (FV.int .i64 0)), (AV.fz (FV.str (ByteArray.mk #[]))), (AV.fz (FV.bool false)), (AV.ofl 1 4), (AV.ofl 6 5), (AV.fz (FV.int .i64 0))]), (Ob.f 0 6 o), (Ob.f 81 1 (([] : LL) ++ d3)), (Ob.f 0 1 ([] : LL)), (Ob.f 0 6 ([] : LL))])
def law04_own_L0 (R : TV → List Ob → Prop) (d0 : Int) (d1 : ByteArray) (d2 : Bool) (d3 : LL) (d4 : LL) (d5 : Int) (i : Int) (o : LL) : Prop := LoopAt Tryz.prog (modeOf [] []) law04_own_lv Tryz.f24 none R [1, 1, 1, 0, 1, 0] (law04_own_S0 d0 d1 d2 d3 d4 d5 i o)
def law04_own_R0 (R : TV → List Ob → Prop) (d0 : Int) (d1 : ByteArray) (d2 : Bool) (d3 : LL) (d4 : LL) (d5 : Int) (i : Int) (o : LL) : Prop :=
 ((((decide (i < (((List.length d4) : Nat) : Int))) = true) → (((0 : Int) ≤ i) ∧ (∃ n8 : Int, (∃ s4 : ByteArray, (∃ b4 : Bool, (∃ es8 : LL, (∃ es9 : LL, (∃ n9 : Int, (((d4)[(Int.toNat i)]? = (some [(FV.int .i64 n8), (FV.str s4), (FV.bool b4), (FV.sl 1 es8), (FV.sl 6 es9), (FV.int .i64 n9)])) ∧ (∃ n10 : Int, (∃ s5 : ByteArray, (∃ b5 : Bool, (∃ es10 : LL, (∃ es11 : LL, (∃ n11 : Int, ((Fn Tryz.prog 24 [(TV.agg [(AV.fz (FV.int .i64 n8)), (AV.fz (FV.str s4)), (AV.fz (FV.bool b4)), (AV.fz (FV.sl 1 es8)), (AV.fz (FV.sl 6 es9)), (AV.fz (FV.int .i64 n9))])] [] (TV.agg [(AV.fz (FV.int .i64 n10)), (AV.fz (FV.str s5)), (AV.fz (FV.bool b5)), (AV.fz (FV.sl 1 es10)), (AV.fz (FV.sl 6 es11)), (AV.fz (FV.int .i64 n11))]) []) ∧ (((((List.length o) + (List.length [[(FV.int .i64 n10), (FV.str s5), (FV.bool b5), (FV.sl 1 es10), (FV.sl 6 es11), (FV.int .i64 n11)]])) * 88) ≤ 220000000000000) ∧ (law04_own_L0 R d0 d1 d2 d3 d4 d5 (IntKind.wrap .i64 (i + 1)) (o ++ [[(FV.int .i64 n10), (FV.str s5), (FV.bool b5), (FV.sl 1 es10), (FV.sl 6 es11), (FV.int .i64 n11)]]))))))))))))))))))) ∧ (((decide (i < (((List.length d4) : Nat) : Int))) = false) → (R (TV.agg [(AV.fz (FV.int .i64 d0)), (AV.fz (FV.str d1)), (AV.fz (FV.bool d2)), (AV.fz (FV.sl 1 (([] : LL) ++ d3))), (AV.fz (FV.sl 6 o)), (AV.fz (FV.int .i64 d5))]) [])))
theorem law04_own_l0 {R : TV → List Ob → Prop} {d0 : Int} {d1 : ByteArray} {d2 : Bool} {d3 : LL} {d4 : LL} {d5 : Int} {i : Int} {o : LL} (h : law04_own_R0 R d0 d1 d2 d3 d4 d5 i o) : law04_own_L0 R d0 d1 d2 d3 d4 d5 i o :=
 LoopAt.by_tr (by kernel_rfl) (by kernel_rfl) h
def law04_own_H (R : TV → List Ob → Prop) (d0 : Int) (d1 : ByteArray) (d2 : Bool) (d3 : List (List FV)) (d4 : List (List FV)) (d5 : Int) : Prop :=
 (((((List.length ([] : List (List FV))) + (List.length d3)) * 4) ≤ 220000000000000) ∧ (law04_own_L0 R d0 d1 d2 d3 d4 d5 0 ([] : List (List FV))))
theorem law04_own_fn (d0 : Int) (d1 : ByteArray) (d2 : Bool) (d3 : LL) (d4 : LL) (d5 : Int) {r : TV} {h : List Ob} (H : law04_own_H (fun r' h' => r' = r ∧ h' = h) d0 d1 d2 d3 d4 d5) : Fn Tryz.prog 24 [(TV.agg [(AV.fz (FV.int .i64 d0)), (AV.fz (FV.str d1)), (AV.fz (FV.bool d2)), (AV.fz (FV.sl 1 d3)), (AV.fz (FV.sl 6 d4)), (AV.fz (FV.int .i64 d5))])] [] r h :=
 Fn.by_tr (M := (modeOf [] [])) (lv := law04_own_lv) (own := none) (F := Tryz.f24) (by kernel_rfl) (by kernel_rfl) (by first | decide | simp) (fun _ _ h => h) (by kernel_rfl) H
def law04_light_lv : List Nat → Keep := lvOf [([0, 1, 0, 1, 1], ⟨38, 0, [], false, false⟩)]
def law04_light_S0 (d0 : Int) (d1 : ByteArray) (d2 : Bool) (d3 : LL) (d4 : LL) (d5 : Int) (depth : Int) (i : Int) : St := (St.mk [TV.und, (TV.one (AV.fz (FV.int .i64 depth))), (TV.one (AV.ptr 0 0 0 0)), TV.und, TV.und, (TV.one (AV.fz (FV.int .i64 i))), TV.und, TV.und, TV.und, TV.und, TV.und, TV.und, TV.und, TV.und, TV.und, TV.und, TV.und, TV.und, TV.und, TV.und, TV.und, TV.und, TV.und, TV.und, TV.und, TV.und, TV.und, TV.und, TV.und, TV.und] [(Ob.g 33 [(AV.fz (FV.int .i64 d0)), (AV.fz (FV.str d1)), (AV.fz (FV.bool d2)), (AV.fz (FV.sl 1 d3)), (AV.fz (FV.sl 6 d4)), (AV.fz (FV.int .i64 d5))])])
def law04_light_L0 (R : TV → List Ob → Prop) (d0 : Int) (d1 : ByteArray) (d2 : Bool) (d3 : LL) (d4 : LL) (d5 : Int) (depth : Int) (i : Int) : Prop := LoopAt Tryz.prog (modeOf [] []) law04_light_lv Tryz.f21 none R [1, 1, 0, 1, 0] (law04_light_S0 d0 d1 d2 d3 d4 d5 depth i)
def law04_light_R0 (R : TV → List Ob → Prop) (d0 : Int) (d1 : ByteArray) (d2 : Bool) (d3 : LL) (d4 : LL) (d5 : Int) (depth : Int) (i : Int) : Prop :=
 ((((decide (i < (((List.length d4) : Nat) : Int))) = true) → (((0 : Int) ≤ i) ∧ (∃ n4 : Int, (∃ s2 : ByteArray, (∃ b4 : Bool, (∃ es4 : LL, (∃ es5 : LL, (∃ n5 : Int, (((d4)[(Int.toNat i)]? = (some [(FV.int .i64 n4), (FV.str s2), (FV.bool b4), (FV.sl 1 es4), (FV.sl 6 es5), (FV.int .i64 n5)])) ∧ (∃ b5 : Bool, ((Fn Tryz.prog 21 [(TV.agg [(AV.fz (FV.int .i64 n4)), (AV.fz (FV.str s2)), (AV.fz (FV.bool b4)), (AV.fz (FV.sl 1 es4)), (AV.fz (FV.sl 6 es5)), (AV.fz (FV.int .i64 n5))]), (TV.one (AV.fz (FV.int .i64 (IntKind.wrap .i64 (depth + 1)))))] [] (TV.one (AV.fz (FV.bool b5))) []) ∧ ((((Bool.not b5) = true) → (R (TV.one (AV.fz (FV.bool false))) [])) ∧ (((Bool.not b5) = false) → (law04_light_L0 R d0 d1 d2 d3 d4 d5 depth (IntKind.wrap .i64 (i + 1)))))))))))))))) ∧ (((decide (i < (((List.length d4) : Nat) : Int))) = false) → (R (TV.one (AV.fz (FV.bool true))) [])))
theorem law04_light_l0 {R : TV → List Ob → Prop} {d0 : Int} {d1 : ByteArray} {d2 : Bool} {d3 : LL} {d4 : LL} {d5 : Int} {depth : Int} {i : Int} (h : law04_light_R0 R d0 d1 d2 d3 d4 d5 depth i) : law04_light_L0 R d0 d1 d2 d3 d4 d5 depth i :=
 LoopAt.by_tr (by kernel_rfl) (by kernel_rfl) h
def law04_light_H (R : TV → List Ob → Prop) (d0 : Int) (d1 : ByteArray) (d2 : Bool) (d3 : LL) (d4 : LL) (d5 : Int) (depth : Int) : Prop :=
 ((((decide ((100 : Int) < depth)) = true) → (R (TV.one (AV.fz (FV.bool false))) [])) ∧ (((decide ((100 : Int) < depth)) = false) → ((((decide ((9000 : Int) < (((List.length d4) : Nat) : Int))) = true) → (R (TV.one (AV.fz (FV.bool false))) [])) ∧ (((decide ((9000 : Int) < (((List.length d4) : Nat) : Int))) = false) → (law04_light_L0 R d0 d1 d2 d3 d4 d5 depth 0)))))
theorem law04_light_fn (d0 : Int) (d1 : ByteArray) (d2 : Bool) (d3 : LL) (d4 : LL) (d5 : Int) (depth : Int) {r : TV} {h : List Ob} (H : law04_light_H (fun r' h' => r' = r ∧ h' = h) d0 d1 d2 d3 d4 d5 depth) : Fn Tryz.prog 21 [(TV.agg [(AV.fz (FV.int .i64 d0)), (AV.fz (FV.str d1)), (AV.fz (FV.bool d2)), (AV.fz (FV.sl 1 d3)), (AV.fz (FV.sl 6 d4)), (AV.fz (FV.int .i64 d5))]), (TV.one (AV.fz (FV.int .i64 depth)))] [] r h :=
 Fn.by_tr (M := (modeOf [] [])) (lv := law04_light_lv) (own := none) (F := Tryz.f21) (by kernel_rfl) (by kernel_rfl) (by first | decide | simp) (fun _ _ h => h) (by kernel_rfl) H
def read_Same_lv : List Nat → Keep := lvOf []
def read_Same_H (R : TV → List Ob → Prop) (a0 : Int) (a1 : ByteArray) (a2 : Bool) (a3 : LL) (a4 : LL) (a5 : Int) (b0 : Int) (b1 : ByteArray) (b2 : Bool) (b3 : LL) (b4 : LL) (b5 : Int) : Prop :=
 ((((a0 == b0) = true) → (((((ByteArray.toList a1) == (ByteArray.toList b1)) = true) → ((((a2 == b2) = true) → (∃ b2 : Bool, ((Fn Tryz.prog 49 [(TV.one (AV.fz (FV.sl 1 a3))), (TV.one (AV.fz (FV.sl 1 b3)))] [] (TV.one (AV.fz (FV.bool b2))) []) ∧ (((b2 = true) → (∃ b3 : Bool, ((Fn Tryz.prog 50 [(TV.one (AV.fz (FV.sl 6 a4))), (TV.one (AV.fz (FV.sl 6 b4))), (TV.one (AV.fz (FV.fn 25 [])))] [] (TV.one (AV.fz (FV.bool b3))) []) ∧ (R (TV.one (AV.fz (FV.bool b3))) [])))) ∧ ((b2 = false) → (R (TV.one (AV.fz (FV.bool false))) [])))))) ∧ (((a2 == b2) = false) → (R (TV.one (AV.fz (FV.bool false))) [])))) ∧ ((((ByteArray.toList a1) == (ByteArray.toList b1)) = false) → (R (TV.one (AV.fz (FV.bool false))) [])))) ∧ (((a0 == b0) = false) → (R (TV.one (AV.fz (FV.bool false))) [])))
theorem read_Same_fn (a0 : Int) (a1 : ByteArray) (a2 : Bool) (a3 : LL) (a4 : LL) (a5 : Int) (b0 : Int) (b1 : ByteArray) (b2 : Bool) (b3 : LL) (b4 : LL) (b5 : Int) {r : TV} {h : List Ob} (H : read_Same_H (fun r' h' => r' = r ∧ h' = h) a0 a1 a2 a3 a4 a5 b0 b1 b2 b3 b4 b5) : Fn Tryz.prog 25 [(TV.agg [(AV.fz (FV.int .i64 a0)), (AV.fz (FV.str a1)), (AV.fz (FV.bool a2)), (AV.fz (FV.sl 1 a3)), (AV.fz (FV.sl 6 a4)), (AV.fz (FV.int .i64 a5))]), (TV.agg [(AV.fz (FV.int .i64 b0)), (AV.fz (FV.str b1)), (AV.fz (FV.bool b2)), (AV.fz (FV.sl 1 b3)), (AV.fz (FV.sl 6 b4)), (AV.fz (FV.int .i64 b5))])] [] r h :=
 Fn.by_tr (M := (modeOf [] [])) (lv := read_Same_lv) (own := none) (F := Tryz.f25) (by kernel_rfl) (by kernel_rfl) (by first | decide | simp) (fun _ _ h => h) (by kernel_rfl) H
def slices_Equal_uint32_uint32_lv : List Nat → Keep := lvOf [([0, 1, 0, 1, 1], ⟨12291, 0, [], false, false⟩)]
def slices_Equal_uint32_uint32_S0 (s1 : LL) (s2 : LL) (i : Int) : St := (St.mk [(TV.one (AV.fz (FV.sl 1 s1))), (TV.one (AV.fz (FV.sl 1 s2))), TV.und, TV.und, TV.und, TV.und, TV.und, TV.und, TV.und, TV.und, TV.und, TV.und, (TV.one (AV.fz (FV.int .i64 (((List.length s1) : Nat) : Int)))), (TV.one (AV.fz (FV.int .i64 i))), TV.und, TV.und, TV.und, TV.und, TV.und, TV.und, TV.und, TV.und, TV.und, TV.und, TV.und, TV.und] [])
def slices_Equal_uint32_uint32_L0 (R : TV → List Ob → Prop) (s1 : LL) (s2 : LL) (i : Int) : Prop := LoopAt Tryz.prog (modeOf [] []) slices_Equal_uint32_uint32_lv Tryz.f49 none R [1, 1, 0, 1, 0] (slices_Equal_uint32_uint32_S0 s1 s2 i)
def slices_Equal_uint32_uint32_R0 (R : TV → List Ob → Prop) (s1 : List (List FV)) (s2 : List (List FV)) (i : Int) : Prop :=
 ((((decide (i < (((List.length s1) : Nat) : Int))) = true) → (((0 : Int) ≤ i) ∧ (∃ n4 : Int, (((s1)[(Int.toNat i)]? = (some [(FV.int .u32 n4)])) ∧ (((0 : Int) ≤ i) ∧ (∃ n5 : Int, (((s2)[(Int.toNat i)]? = (some [(FV.int .u32 n5)])) ∧ ((((n4 != n5) = true) → (R (TV.one (AV.fz (FV.bool false))) [])) ∧ (((n4 != n5) = false) → (slices_Equal_uint32_uint32_L0 R s1 s2 (IntKind.wrap .i64 (i + 1)))))))))))) ∧ (((decide (i < (((List.length s1) : Nat) : Int))) = false) → (R (TV.one (AV.fz (FV.bool true))) [])))
theorem slices_Equal_uint32_uint32_l0 {R : TV → List Ob → Prop} {s1 : LL} {s2 : LL} {i : Int} (h : slices_Equal_uint32_uint32_R0 R s1 s2 i) : slices_Equal_uint32_uint32_L0 R s1 s2 i :=
 LoopAt.by_tr (by kernel_rfl) (by kernel_rfl) h
def slices_Equal_uint32_uint32_H (R : TV → List Ob → Prop) (s1 : List (List FV)) (s2 : List (List FV)) : Prop :=
 (((((((List.length s1) : Nat) : Int) != (((List.length s2) : Nat) : Int)) = true) → (R (TV.one (AV.fz (FV.bool false))) [])) ∧ ((((((List.length s1) : Nat) : Int) != (((List.length s2) : Nat) : Int)) = false) → (slices_Equal_uint32_uint32_L0 R s1 s2 0)))
theorem slices_Equal_uint32_uint32_fn (s1 : LL) (s2 : LL) {r : TV} {h : List Ob} (H : slices_Equal_uint32_uint32_H (fun r' h' => r' = r ∧ h' = h) s1 s2) : Fn Tryz.prog 49 [(TV.one (AV.fz (FV.sl 1 s1))), (TV.one (AV.fz (FV.sl 1 s2)))] [] r h :=
 Fn.by_tr (M := (modeOf [] [])) (lv := slices_Equal_uint32_uint32_lv) (own := none) (F := Tryz.f49) (by kernel_rfl) (by kernel_rfl) (by first | decide | simp) (fun _ _ h => h) (by kernel_rfl) H
def eqSameD_lv : List Nat → Keep := lvOf [([0, 1, 0, 1, 1], ⟨229382, 0, [], false, false⟩)]
def eqSameD_S0 (s1 : LL) (s2 : LL) (i : Int) : St := (St.mk [TV.und, (TV.one (AV.fz (FV.sl 6 s2))), (TV.one (AV.fz (FV.fn 25 []))), TV.und, TV.und, TV.und, TV.und, TV.und, TV.und, TV.und, TV.und, TV.und, TV.und, TV.und, TV.und, (TV.one (AV.fz (FV.sl 6 s1))), (TV.one (AV.fz (FV.int .i64 (((List.length s1) : Nat) : Int)))), (TV.one (AV.fz (FV.int .i64 i))), TV.und, TV.und, TV.und, TV.und, TV.und, TV.und, TV.und, TV.und, TV.und, TV.und, TV.und, TV.und, TV.und, TV.und] [])
def eqSameD_L0 (R : TV → List Ob → Prop) (s1 : LL) (s2 : LL) (i : Int) : Prop := LoopAt Tryz.prog (modeOf [] []) eqSameD_lv Tryz.f50 none R [1, 1, 0, 1, 0] (eqSameD_S0 s1 s2 i)
def eqSameD_R0 (R : TV → List Ob → Prop) (s1 : List (List FV)) (s2 : List (List FV)) (i : Int) : Prop :=
 ((((decide (i < (((List.length s1) : Nat) : Int))) = true) → (((0 : Int) ≤ i) ∧ (∃ n8 : Int, (∃ s4 : ByteArray, (∃ b6 : Bool, (∃ es8 : LL, (∃ es9 : LL, (∃ n9 : Int, (((s1)[(Int.toNat i)]? = (some [(FV.int .i64 n8), (FV.str s4), (FV.bool b6), (FV.sl 1 es8), (FV.sl 6 es9), (FV.int .i64 n9)])) ∧ (((0 : Int) ≤ i) ∧ (∃ n10 : Int, (∃ s5 : ByteArray, (∃ b7 : Bool, (∃ es10 : LL, (∃ es11 : LL, (∃ n11 : Int, (((s2)[(Int.toNat i)]? = (some [(FV.int .i64 n10), (FV.str s5), (FV.bool b7), (FV.sl 1 es10), (FV.sl 6 es11), (FV.int .i64 n11)])) ∧ (∃ b8 : Bool, ((Fn Tryz.prog 25 [(TV.agg [(AV.fz (FV.int .i64 n8)), (AV.fz (FV.str s4)), (AV.fz (FV.bool b6)), (AV.fz (FV.sl 1 es8)), (AV.fz (FV.sl 6 es9)), (AV.fz (FV.int .i64 n9))]), (TV.agg [(AV.fz (FV.int .i64 n10)), (AV.fz (FV.str s5)), (AV.fz (FV.bool b7)), (AV.fz (FV.sl 1 es10)), (AV.fz (FV.sl 6 es11)), (AV.fz (FV.int .i64 n11))])] [] (TV.one (AV.fz (FV.bool b8))) []) ∧ ((((Bool.not b8) = true) → (R (TV.one (AV.fz (FV.bool false))) [])) ∧ (((Bool.not b8) = false) → (eqSameD_L0 R s1 s2 (IntKind.wrap .i64 (i + 1)))))))))))))))))))))))) ∧ (((decide (i < (((List.length s1) : Nat) : Int))) = false) → (R (TV.one (AV.fz (FV.bool true))) [])))
theorem eqSameD_l0 {R : TV → List Ob → Prop} {s1 : LL} {s2 : LL} {i : Int} (h : eqSameD_R0 R s1 s2 i) : eqSameD_L0 R s1 s2 i :=
 LoopAt.by_tr (by kernel_rfl) (by kernel_rfl) h
def eqSameD_H (R : TV → List Ob → Prop) (s1 : List (List FV)) (s2 : List (List FV)) : Prop :=
 (((((((List.length s1) : Nat) : Int) != (((List.length s2) : Nat) : Int)) = true) → (R (TV.one (AV.fz (FV.bool false))) [])) ∧ ((((((List.length s1) : Nat) : Int) != (((List.length s2) : Nat) : Int)) = false) → (eqSameD_L0 R s1 s2 0)))
theorem eqSameD_fn (s1 : LL) (s2 : LL) {r : TV} {h : List Ob} (H : eqSameD_H (fun r' h' => r' = r ∧ h' = h) s1 s2) : Fn Tryz.prog 50 [(TV.one (AV.fz (FV.sl 6 s1))), (TV.one (AV.fz (FV.sl 6 s2))), (TV.one (AV.fz (FV.fn 25 [])))] [] r h :=
 Fn.by_tr (M := (modeOf [] [])) (lv := eqSameD_lv) (own := none) (F := Tryz.f50) (by kernel_rfl) (by kernel_rfl) (by first | decide | simp) (fun _ _ h => h) (by kernel_rfl) H
end
section
theorem own4_loop (k : Int) (t : ByteArray) (n : Bool) (l : List Int) (a : Int) (xs : List Dt) (hl : xs.length ≤ 1048576) (hp : ∀ x ∈ xs, Fn Tryz.prog 24 [fzD x] [] (fzD x) [])
  (R : TV → List Ob → Prop) (hR : R (fzD (.mk k t n l xs a)) []) : ∀ (d j : Nat), j + d = xs.length → law04_own_L0 R k t n (ints .u32 l) (Dt.rows xs) a j (Dt.rows (xs.take j))
 | 0, j, hj => by
  refine law04_own_l0 ?_
  unfold law04_own_R0
  rw [rows_len, dec_t, dec_f, List.nil_append]
  refine ⟨fun h => by omega, fun _ => ?_⟩
  rw [List.take_of_length_le (by omega)]
  unfold fzD at hR
  simp only [Dt.row, List.map_cons, List.map_nil] at hR
  exact hR
 | d + 1, j, hj => by
  have hF := hp xs[j] (List.getElem_mem _)
  have hr : (Dt.rows xs)[Int.toNat (j : Int)]? = some xs[j].row := by rw [rows_get, Int.toNat_natCast, List.getElem?_eq_getElem (by omega)]; rfl
  have ht : xs.take (j + 1) = xs.take j ++ [xs[j]] := List.take_succ_eq_append_getElem (by omega)
  have ih := own4_loop k t n l a xs hl hp R hR d (j + 1) (by omega)
  rw [ht, rows_app] at ih
  generalize xs[j] = y at hF hr ih
  obtain ⟨k', t', n', l', ys, a'⟩ := y
  unfold fzD at hF
  simp only [Dt.row, Dt.rows, List.map_cons, List.map_nil] at hF hr ih
  refine law04_own_l0 ?_
  unfold law04_own_R0
  have e : IntKind.wrap .i64 ((j : Int) + 1) = ((j + 1 : Nat) : Int) := w64 (by omega) (by omega)
  rw [rows_len, dec_t, dec_f, e]
  refine ⟨fun _ => ⟨by omega, _, _, _, _, _, _, hr, _, _, _, _, _, _, hF, ?_, ih⟩, fun h => by omega⟩
  rw [rows_len, List.length_take, List.length_singleton]
  omega
mutual
theorem own4_ok : ∀ (x : Dt), x.ok → Fn Tryz.prog 24 [fzD x] [] (fzD x) []
 | .mk k t n l xs a, hok => by
  unfold Dt.ok at hok
  obtain ⟨_, _, _, hl4, hxl, hxs, _⟩ := hok
  have hall := own4_all xs hxs
  obtain ⟨R, hR, hRe⟩ := exR (fzD (.mk k t n l xs a))
  have hR' := hR
  unfold fzD at hRe ⊢
  simp only [Dt.row, List.map_cons, List.map_nil] at hRe ⊢
  refine law04_own_fn _ _ _ _ _ _ ?_
  rw [hRe]
  clear hRe
  unfold law04_own_H
  rw [List.length_nil, ints_len]
  exact ⟨by omega, by simpa [Dt.rows] using own4_loop k t n l a xs hxl hall R hR' xs.length 0 (by omega)⟩
theorem own4_all : ∀ (xs : List Dt), Dt.oks xs → ∀ x ∈ xs, Fn Tryz.prog 24 [fzD x] [] (fzD x) []
 | [], hok => fun x hx => by cases hx
 | y :: xs, hok => fun x hx => by
  unfold Dt.oks at hok
  have h1 := own4_ok y hok.1
  have h2 := own4_all xs hok.2
  rcases List.mem_cons.1 hx with rfl | hx
  ·exact h1
  ·exact h2 x hx
end
theorem light4_loop (k : Int) (t : ByteArray) (n : Bool) (l : List Int) (a : Int) (xs : List Dt) (hl : xs.length ≤ 1048576) (dp : Int) (hp : ∀ x ∈ xs, ∃ b, Fn Tryz.prog 21 [fzD x, fzI .i64 (IntKind.wrap .i64 (dp + 1))] [] (fzB b) []) :
  ∀ (d j : Nat), j + d = xs.length → ∃ b, ∀ R : TV → List Ob → Prop, R (fzB b) [] → law04_light_L0 R k t n (ints .u32 l) (Dt.rows xs) a dp j
 | 0, j, hj => by
  refine ⟨true, fun R hR => law04_light_l0 ?_⟩
  unfold law04_light_R0
  rw [rows_len, dec_t, dec_f]
  exact ⟨fun h => by omega, fun _ => hR⟩
 | d + 1, j, hj => by
  obtain ⟨b, hF⟩ := hp xs[j] (List.getElem_mem _)
  have hr : (Dt.rows xs)[Int.toNat (j : Int)]? = some xs[j].row := by rw [rows_get, Int.toNat_natCast, List.getElem?_eq_getElem (by omega)]; rfl
  obtain ⟨b2, ih⟩ := light4_loop k t n l a xs hl dp hp d (j + 1) (by omega)
  generalize xs[j] = y at hF hr
  obtain ⟨k', t', n', l', ys, a'⟩ := y
  unfold fzD at hF
  simp only [Dt.row, Dt.rows, List.map_cons, List.map_nil] at hF hr
  have e : IntKind.wrap .i64 ((j : Int) + 1) = ((j + 1 : Nat) : Int) := w64 (by omega) (by omega)
  refine ⟨if b = true then b2 else false, fun R hR => law04_light_l0 ?_⟩
  unfold law04_light_R0
  rw [rows_len, dec_t, dec_f, e]
  refine ⟨fun _ => ⟨by omega, _, _, _, _, _, _, hr, b, hF, fun h => ?_, fun h => ?_⟩, fun h => by omega⟩
  ·have : b = false := by simpa using h
   rw [this] at hR
   exact hR
  ·have : b = true := by simpa using h
   rw [this] at hR
   exact ih R hR
mutual
theorem light4_ok : ∀ (x : Dt) (dp : Int), x.ok → ∃ b, Fn Tryz.prog 21 [fzD x, fzI .i64 dp] [] (fzB b) []
 | .mk k t n l xs a, dp, hok => by
  unfold Dt.ok at hok
  obtain ⟨_, _, _, hl4, hxl, hxs, _⟩ := hok
  have hall := light4_all xs (IntKind.wrap .i64 (dp + 1)) hxs
  obtain ⟨b, hb⟩ := light4_loop k t n l a xs hxl dp hall xs.length 0 (by omega)
  refine ⟨if 100 < dp then false else if 9000 < xs.length then false else b, law04_light_fn _ _ _ _ _ _ _ ?_⟩
  obtain ⟨R, hR, hRe⟩ := exR (fzB (if 100 < dp then false else if 9000 < xs.length then false else b))
  rw [hRe]; clear hRe
  unfold law04_light_H
  rw [rows_len]
  simp only [dec_t, dec_f]
  refine ⟨fun h => ?_, fun h => ⟨fun h2 => ?_, fun h2 => ?_⟩⟩
  ·rw [if_pos h] at hR; exact hR
  ·rw [if_neg h, if_pos (by omega)] at hR; exact hR
  ·rw [if_neg h, if_neg (by omega)] at hR; exact hb R hR
theorem light4_all : ∀ (xs : List Dt) (dp : Int), Dt.oks xs → ∀ x ∈ xs, ∃ b, Fn Tryz.prog 21 [fzD x, fzI .i64 dp] [] (fzB b) []
 | [], dp, hok => fun x hx => by cases hx
 | y :: xs, dp, hok => fun x hx => by
  unfold Dt.oks at hok
  have h1 := light4_ok y dp hok.1
  have h2 := light4_all xs dp hok.2
  rcases List.mem_cons.1 hx with rfl | hx
  ·exact h1
  ·exact h2 x hx
end
theorem rd_ints4 (k : IntKind) {l : List Int} {i : Nat} (h : i < l.length) : (ints k l)[i]? = some [.int k (rd l i)] := by simp [ints, rd_at l i h, h]
theorem eqU4_loop (a b : List Int) (ha : a.length * 4 ≤ 140737488355328) (hlen : a.length = b.length) (R : TV → List Ob → Prop) (hR : R (fzB (decide (a = b))) []) : ∀ (d i : Nat), i + d = a.length → a.take i = b.take i → slices_Equal_uint32_uint32_L0 R (ints .u32 a) (ints .u32 b) i
 | 0, i, hi, h => by
  rw [List.take_of_length_le (by omega), List.take_of_length_le (by omega)] at h
  refine slices_Equal_uint32_uint32_l0 ?_
  unfold slices_Equal_uint32_uint32_R0
  rw [ints_len, dec_t, dec_f]
  exact ⟨fun h => by omega, fun _ => by simpa [h] using hR⟩
 | d + 1, i, hi, h => by
  refine slices_Equal_uint32_uint32_l0 ?_
  unfold slices_Equal_uint32_uint32_R0
  have e3 : IntKind.wrap .i64 ((i : Int) + 1) = ((i + 1 : Nat) : Int) := w64 (by omega) (by omega)
  rw [ints_len, dec_t, dec_f, e3]
  refine ⟨fun _ => ⟨by omega, _, rd_ints4 .u32 (l := a) (i := i) (by omega), by omega, _, rd_ints4 .u32 (l := b) (i := i) (by omega), ?_⟩, fun h => by omega⟩
  rw [bne_t, bne_f]
  refine ⟨fun hne => ?_, fun he => ?_⟩
  ·have : ¬ a = b := fun e => hne (by rw [e])
   simpa [this] using hR
  ·refine eqU4_loop a b ha hlen R hR d (i + 1) (by omega) ?_
   rw [rd_at a i (by omega), rd_at b i (by omega)] at he
   rw [List.take_succ_eq_append_getElem (by omega), List.take_succ_eq_append_getElem (by omega), h, he]
theorem eqU4_ok (a b : List Int) (ha : a.length * 4 ≤ 140737488355328) : Fn Tryz.prog 49 [fzS .u32 a, fzS .u32 b] [] (fzB (decide (a = b))) [] := by
 refine slices_Equal_uint32_uint32_fn _ _ ?_
 unfold slices_Equal_uint32_uint32_H
 rw [ints_len, ints_len, bne_t, bne_f]
 refine ⟨fun h2 => ?_, fun h2 => ?_⟩
 ·have : ¬ a = b := fun e => h2 (by rw [e])
  rw [decide_eq_false this]
  exact ⟨rfl, rfl⟩
 ·exact eqU4_loop a b ha (by omega) _ ⟨rfl, rfl⟩ a.length 0 (by omega) (by simp)
theorem eqSame_loop (xs ys : List Dt) (hl : xs.length ≤ 1048576) (hxy : xs.length = ys.length)
  (hp : ∀ x ∈ xs, ∀ y, Fn Tryz.prog 25 [fzD x, fzD y] [] (fzB (x.same y)) [])
  (R : TV → List Ob → Prop) (hR : R (fzB (Dt.sameL xs ys)) []) : ∀ (d j : Nat), j + d = xs.length → Dt.sameL xs ys = Dt.sameL (xs.drop j) (ys.drop j) →
   eqSameD_L0 R (Dt.rows xs) (Dt.rows ys) j
 | 0, j, hj, h => by
  refine eqSameD_l0 ?_
  unfold eqSameD_R0
  rw [rows_len, dec_t, dec_f]
  refine ⟨fun h => by omega, fun _ => ?_⟩
  rw [h, List.drop_of_length_le (by omega)] at hR
  simpa only [Dt.sameL] using hR
 | d + 1, j, hj, h => by
  have hF := hp xs[j] (List.getElem_mem _) (ys[j]'(by omega))
  have hr := drow_at (List.getElem?_eq_getElem (show j < xs.length by omega))
  have hr2 := drow_at (List.getElem?_eq_getElem (show j < ys.length by omega))
  have hd : xs.drop j = xs[j] :: xs.drop (j + 1) := List.drop_eq_getElem_cons (by omega)
  have hd2 : ys.drop j = ys[j]'(by omega) :: ys.drop (j + 1) := List.drop_eq_getElem_cons (by omega)
  rw [hd, hd2, sameL_cons] at h
  generalize xs[j] = y at hF hr h
  generalize ys[j]'(by omega) = z at hF hr2 h
  obtain ⟨k1, t1, n1, l1, ys1, a1⟩ := y
  obtain ⟨k2, t2, n2, l2, ys2, a2⟩ := z
  unfold fzD at hF
  simp only [Dt.row, List.map_cons, List.map_nil] at hF hr hr2
  refine eqSameD_l0 ?_
  unfold eqSameD_R0
  have e : IntKind.wrap .i64 ((j : Int) + 1) = ((j + 1 : Nat) : Int) := w64 (by omega) (by omega)
  rw [rows_len, dec_t, dec_f, e]
  refine ⟨fun _ => ⟨by omega, _, _, _, _, _, _, hr, by omega, _, _, _, _, _, _, hr2, _, hF, ?_⟩, fun h => by omega⟩
  rw [not_t, not_f]
  refine ⟨fun h1 => ?_, fun h1 => ?_⟩
  ·rw [h, h1, Bool.false_and] at hR; exact hR
  ·exact eqSame_loop xs ys hl hxy hp R hR d (j + 1) (by omega) (by rw [h, h1, Bool.true_and])
theorem eqSame_ok (xs ys : List Dt) (hl : xs.length ≤ 1048576) (hp : ∀ x ∈ xs, ∀ y, Fn Tryz.prog 25 [fzD x, fzD y] [] (fzB (x.same y)) []) :
  Fn Tryz.prog 50 [.one (.fz (.sl 6 (Dt.rows xs))), .one (.fz (.sl 6 (Dt.rows ys))), .one (.fz (.fn 25 []))] [] (fzB (decide (xs.length = ys.length) && Dt.sameL xs ys)) [] := by
 obtain ⟨R, hR, hRe⟩ := exR (fzB (decide (xs.length = ys.length) && Dt.sameL xs ys))
 refine eqSameD_fn _ _ ?_
 rw [hRe]
 clear hRe
 unfold eqSameD_H
 rw [rows_len, rows_len, bne_t, bne_f]
 refine ⟨fun h => ?_, fun h => ?_⟩
 ·rw [decide_eq_false (by omega), Bool.false_and] at hR; exact hR
 ·rw [decide_eq_true (by omega), Bool.true_and] at hR
  exact eqSame_loop xs ys hl (by omega) hp R hR xs.length 0 (by omega) rfl
mutual
theorem pSame_ok : ∀ (x y : Dt), x.ok → Fn Tryz.prog 25 [fzD x, fzD y] [] (fzB (x.same y)) []
 | .mk k t n l xs a, .mk k' t' n' l' ys a', hok => by
  unfold Dt.ok at hok
  obtain ⟨_, _, _, hl4, hxl, hxs, _⟩ := hok
  have hall := pSame_all xs hxs
  have hEq := eqSame_ok xs ys hxl hall
  obtain ⟨R, hR, hRe⟩ := exR (fzB ((Dt.mk k t n l xs a).same (.mk k' t' n' l' ys a')))
  unfold fzD
  simp only [Dt.row, List.map_cons, List.map_nil]
  refine read_Same_fn _ _ _ _ _ _ _ _ _ _ _ _ ?_
  rw [hRe]
  clear hRe
  unfold read_Same_H
  unfold Dt.same at hR
  have no : (decide (k = k') && (decide (t = t') && (decide (n = n' ∧ l = l') && (decide (xs.length = ys.length) && Dt.sameL xs ys)))) = false → R (fzB false) [] := fun h => by rw [h] at hR; exact hR
  rw [str_eq, beq_t, beq_f]
  refine ⟨fun h2 => ⟨fun h3 => ⟨fun h4 => ⟨_, eqU4_ok l l' hl4, fun h5 => ⟨_, hEq, ?_⟩, fun h5 => no ?_⟩, fun h4 => no ?_⟩, fun h3 => no ?_⟩, fun h2 => no ?_⟩
  ·have h4' : n = n' := by simpa using h4
   have h5' : l = l' := of_decide_eq_true h5
   rw [decide_eq_true h2, h3, decide_eq_true (show n = n' ∧ l = l' from ⟨h4', h5'⟩)] at hR
   exact hR
  ·have h5' : ¬ l = l' := of_decide_eq_false h5
   rw [decide_eq_false (show ¬ (n = n' ∧ l = l') from fun h => h5' h.2)]
   simp
  ·have h4' : ¬ n = n' := by simpa using h4
   rw [decide_eq_false (show ¬ (n = n' ∧ l = l') from fun h => h4' h.1)]
   simp
  ·rw [h3]; simp
  ·rw [decide_eq_false h2]; simp
theorem pSame_all : ∀ (xs : List Dt), Dt.oks xs → ∀ x ∈ xs, ∀ y, Fn Tryz.prog 25 [fzD x, fzD y] [] (fzB (x.same y)) []
 | [], hok => fun x hx => by cases hx
 | z :: xs, hok => fun x hx y => by
  unfold Dt.oks at hok
  have h1 := pSame_ok z y hok.1
  have h2 := pSame_all xs hok.2
  rcases List.mem_cons.1 hx with rfl | hx
  ·exact h1
  ·exact h2 x hx y
end
end
section
theorem skipR_nil (dp en d nd : Int) : skipR dp en [] d nd = .ok () 0 nd := by unfold skipR; rfl
theorem skipR_no {dp en d nd : Int} {t : Tok} {r : List Tok} (h : t.kind ≠ 5) : skipR dp en (t :: r) d nd = .ok () 0 nd := by
 unfold skipR
 try simp only
 rw [if_neg h]
theorem datR_leaf {dp en d nd : Int} {t : Tok} {r : List Tok} (h : t.kind = 7) (hb : begE dp d nd = 0) : datR dp en (t :: r) d nd = .ok t.d 1 (nd + 1) := by
 unfold datR
 try simp only
 rw [if_neg (by omega), if_neg (by rw [hb]; simp), if_pos h]
theorem datR_abb {dp en d nd : Int} {t : Tok} {r : List Tok} (h : t.kind = 6) (hb : begE dp d nd = 0) (hb2 : begE dp (d + 1) (nd + 1) = 0) : datR dp en (t :: r) d nd = match behR dp en r (d + 1) (nd + 2) with
  | .bad a e => .bad a e
  | .ok x n nd1 => .ok (lsD 1 [lf 4 t.name false [] t.at_, x] t.at_) (1 + n) nd1 := by
 rw [datR.eq_def]; simp only; rw [if_neg (by omega), if_neg (by rw [hb]; simp), if_neg (by omega), if_pos h, if_neg (by rw [hb2]; simp)]
 all_goals (cases behR dp en r (d + 1) (nd + 2) <;> rfl)
theorem datR_vec {dp en d nd : Int} {t : Tok} {r : List Tok} (h : t.kind = 3) (hb : begE dp d nd = 0) : datR dp en (t :: r) d nd = match insR dp en r (d + 1) true [] none (nd + 1) with
  | .bad a e => .bad a e
  | .ok v n nd1 => .ok (lsD 3 v.1 t.at_) (1 + n) nd1 := by
 rw [datR.eq_def]; simp only; rw [if_neg (by omega), if_neg (by rw [hb]; simp), if_neg (by omega), if_neg (by omega), if_pos h]
 all_goals (cases insR dp en r (d + 1) true [] none (nd + 1) <;> rfl)
theorem datR_open {dp en d nd : Int} {t : Tok} {r : List Tok} (h : t.kind = 1) (hb : begE dp d nd = 0) : datR dp en (t :: r) d nd = match insR dp en r (d + 1) false [] none (nd + 1) with
  | .bad a e => .bad a e
  | .ok v n nd1 => .ok (endD v.1 v.2 t.at_) (1 + n) nd1 := by
 rw [datR.eq_def]; simp only; rw [if_neg (by omega), if_neg (by rw [hb]; simp), if_neg (by omega), if_neg (by omega), if_neg (by omega)]
 all_goals (cases insR dp en r (d + 1) false [] none (nd + 1) <;> rfl)
theorem behR_item {dp en d nd : Int} {t : Tok} {r : List Tok} (h : t.kind ≠ 5 ∧ t.kind ≠ 2 ∧ t.kind ≠ 4) : behR dp en (t :: r) d nd = datR dp en (t :: r) d nd := by
 rw [behR.eq_def, skipR_no h.1]
 simp only [List.drop_zero]
 rw [if_neg (by omega)]
 cases datR dp en (t :: r) d nd with
 | bad a e => rfl
 | ok x m nd2 => simp only [Nat.zero_add]
theorem insR_close {dp en d nd : Int} {v : Bool} {acc : List Dt} {tail : Option Dt} {t : Tok} {r : List Tok} (h : t.kind = 2) : insR dp en (t :: r) d v acc tail nd = .ok (acc, tail) 1 nd := by
 rw [insR.eq_def, skipR_no (by omega)]
 simp only
 split
 ·rename_i he; simp at he
 ·rename_i t' r' he
  rw [List.drop_zero] at he
  cases he
  rw [if_pos h]
theorem insR_item {dp en d nd : Int} {v : Bool} {acc : List Dt} {t : Tok} {r : List Tok} (h : t.kind ≠ 5 ∧ t.kind ≠ 2 ∧ t.kind ≠ 4) : insR dp en (t :: r) d v acc none nd = match datR dp en (t :: r) d nd with
  | .bad a e => .bad a e
  | .ok x m nd2 => match insR dp en (r.drop (m - 1)) d v (acc ++ [x]) none nd2 with
   | .bad a e => .bad a e
   | .ok w k nd3 => .ok w (m + k) nd3 := by
 rw [insR.eq_def, skipR_no h.1]
 simp only
 split
 ·rename_i he; simp at he
 ·rename_i t' r' he
  rw [List.drop_zero] at he
  cases he
  rw [if_neg h.2.1, if_neg (by simp), if_pos h.2.2, List.drop_zero]
  cases datR dp en (t :: r) d nd with
  | bad a e => rfl
  | ok x m nd2 =>
   simp only
   cases insR dp en (r.drop (m - 1)) d v (acc ++ [x]) none nd2 with
   | bad a e => rfl
   | ok w k nd3 => simp only [Nat.zero_add]
theorem insR_dot {dp en d nd : Int} {acc : List Dt} {t : Tok} {r : List Tok} (h : t.kind = 4) (ha : acc ≠ []) : insR dp en (t :: r) d false acc none nd = match behR dp en r d nd with
  | .bad a e => .bad a e
  | .ok x m nd2 => match insR dp en (r.drop m) d false acc (some x) nd2 with
   | .bad a e => .bad a e
   | .ok w k nd3 => .ok w (1 + m + k) nd3 := by
 rw [insR.eq_def, skipR_no (by omega)]
 simp only
 split
 ·rename_i he; simp at he
 ·rename_i t' r' he
  rw [List.drop_zero] at he
  cases he
  rw [if_neg (by omega), if_neg (by simp), if_neg (by omega), if_neg (by simp [ha])]
  all_goals (cases behR dp en r d nd with
  | bad a e => rfl
  | ok x m nd2 =>
   simp only
   cases insR dp en (r.drop m) d false acc (some x) nd2 with
   | bad a e => rfl
   | ok w k nd3 => simp only [Nat.zero_add])
theorem topR_nil (dp en nd : Int) (acc : List Dt) : topR dp en [] nd acc = .ok acc 0 nd := by unfold topR; rfl
theorem topR_cons (dp en nd : Int) (acc : List Dt) (t : Tok) (r : List Tok) : topR dp en (t :: r) nd acc = match datR dp en (t :: r) 1 nd with
  | .bad a e => .bad a e
  | .ok x m nd1 => match skipR dp en (r.drop (m - 1)) 1 nd1 with
   | .bad a e => .bad a e
   | .ok _ k nd2 => topR dp en (r.drop (m - 1 + k)) nd2 (acc ++ [x]) := by
 rw [topR.eq_def]
 try simp only
 all_goals (cases datR dp en (t :: r) 1 nd with
 | bad a e => rfl
 | ok x m nd1 =>
  simp only
  cases skipR dp en (r.drop (m - 1)) 1 nd1 <;> rfl)
def ansB : List Int := [40, 97, 32, 46, 32, 40, 98, 41, 41]
def ansT : List Tok := [⟨1, [], lf 0 [] false [] 0, 0⟩, ⟨7, [], lf 4 [97] false [] 1, 1⟩, ⟨4, [], lf 0 [] false [] 0, 3⟩, ⟨1, [], lf 0 [] false [] 0, 5⟩, ⟨7, [], lf 4 [98] false [] 6, 6⟩, ⟨2, [], lf 0 [] false [] 0, 7⟩, ⟨2, [], lf 0 [] false [] 0, 8⟩]
theorem ans_dec : decE ansB = 0 ∧ decL ansB = ansB := by decide +kernel
theorem ans_scan : scanV ansB = (ansT, 0, 0) := by kernel_rfl
theorem ans_read : readV ansB 5 = ([lsD 1 [lf 4 [97] false [] 1, lf 4 [98] false [] 6] 0], 0, 0) := by
 unfold readV
 rw [if_neg (by omega), ans_dec.1, ans_dec.2, ans_scan]
 rw [if_neg (by simp), if_neg (by simp)]
 unfold readW ansT
 rw [skipR_no (by decide)]
 simp only [List.drop_zero]
 rw [topR_cons, datR_open rfl (by decide), insR_item (by decide), datR_leaf rfl (by decide)]
 simp only [List.drop_zero, List.nil_append, Nat.sub_self]
 rw [insR_dot rfl (by simp), behR_item (by decide), datR_open rfl (by decide), insR_item (by decide), datR_leaf rfl (by decide)]
 simp only [List.drop_zero, List.nil_append, Nat.sub_self]
 rw [insR_close rfl]
 simp only [Nat.reduceAdd, List.drop_succ_cons, List.drop_zero]
 rw [insR_close rfl]
 simp only [Nat.reduceAdd, Nat.reduceSub, List.drop_succ_cons, List.drop_zero, List.drop_nil]
 rw [skipR_nil]
 simp only [Nat.reduceAdd, Nat.reduceSub, List.drop_succ_cons, List.drop_zero, List.drop_nil]
 rw [topR_nil]
 rfl
theorem answers04_ok : Fn Tryz.prog 16 [] [] (fzB true) [] := by
 have h := Read_ok ansB (by unfold ansB; intro x hx; simp at hx; omega) 5
 rw [ans_read] at h
 refine law04_answers_fn ?_
 unfold law04_answers_H
 unfold rdT at h
 simp only [lsD, lf, Dt.rows, Dt.row] at h
 refine ⟨by simp, _, _, _, h, fun _ => ⟨fun _ => ⟨by omega, _, _, _, _, _, _, rfl, fun _ => ⟨by omega, _, _, _, _, _, _, rfl, rfl, rfl⟩, fun h => absurd h (by decide)⟩, fun h => absurd h (by decide)⟩, fun h => absurd h (by decide)⟩
end
set_option maxRecDepth 100000
section
def law04_ReadSame_lv : List Nat → Keep := lvOf []
def law04_ReadSame_H (R : TV → List Ob → Prop) (a0 : Int) (a1 : ByteArray) (a2 : Bool) (a3 : LL) (a4 : LL) (a5 : Int) (b0 : Int) (b1 : ByteArray) (b2 : Bool) (b3 : LL) (b4 : LL) (b5 : Int) (at_ : Int) : Prop :=
 (∃ b18 : Bool, ((Fn Tryz.prog 21 [(TV.agg [(AV.fz (FV.int .i64 a0)), (AV.fz (FV.str a1)), (AV.fz (FV.bool a2)), (AV.fz (FV.sl 1 a3)), (AV.fz (FV.sl 6 a4)), (AV.fz (FV.int .i64 a5))]), (TV.one (AV.fz (FV.int .i64 1)))] [] (TV.one (AV.fz (FV.bool b18))) []) ∧ ((((Bool.not b18) = true) → (∃ b19 : Bool, ((Fn Tryz.prog 16 [] [] (TV.one (AV.fz (FV.bool b19))) []) ∧ (R (TV.one (AV.fz (FV.bool b19))) [])))) ∧ (((Bool.not b18) = false) → (∃ b20 : Bool, ((Fn Tryz.prog 21 [(TV.agg [(AV.fz (FV.int .i64 b0)), (AV.fz (FV.str b1)), (AV.fz (FV.bool b2)), (AV.fz (FV.sl 1 b3)), (AV.fz (FV.sl 6 b4)), (AV.fz (FV.int .i64 b5))]), (TV.one (AV.fz (FV.int .i64 1)))] [] (TV.one (AV.fz (FV.bool b20))) []) ∧ ((((Bool.not b20) = true) → (∃ b21 : Bool, ((Fn Tryz.prog 16 [] [] (TV.one (AV.fz (FV.bool b21))) []) ∧ (R (TV.one (AV.fz (FV.bool b21))) [])))) ∧ (((Bool.not b20) = false) → (∃ n16 : Int, (∃ s8 : ByteArray, (∃ b22 : Bool, (∃ es16 : LL, (∃ es17 : LL, (∃ n17 : Int, ((Fn Tryz.prog 24 [(TV.agg [(AV.fz (FV.int .i64 a0)), (AV.fz (FV.str a1)), (AV.fz (FV.bool a2)), (AV.fz (FV.sl 1 a3)), (AV.fz (FV.sl 6 a4)), (AV.fz (FV.int .i64 a5))])] [] (TV.agg [(AV.fz (FV.int .i64 n16)), (AV.fz (FV.str s8)), (AV.fz (FV.bool b22)), (AV.fz (FV.sl 1 es16)), (AV.fz (FV.sl 6 es17)), (AV.fz (FV.int .i64 n17))]) []) ∧ (∃ b23 : Bool, ((Fn Tryz.prog 16 [] [] (TV.one (AV.fz (FV.bool b23))) []) ∧ (((b23 = true) → (∃ n18 : Int, (∃ s9 : ByteArray, (∃ b24 : Bool, (∃ es18 : LL, (∃ es19 : LL, (∃ n19 : Int, ((Fn Tryz.prog 24 [(TV.agg [(AV.fz (FV.int .i64 a0)), (AV.fz (FV.str a1)), (AV.fz (FV.bool a2)), (AV.fz (FV.sl 1 a3)), (AV.fz (FV.sl 6 a4)), (AV.fz (FV.int .i64 a5))])] [] (TV.agg [(AV.fz (FV.int .i64 n18)), (AV.fz (FV.str s9)), (AV.fz (FV.bool b24)), (AV.fz (FV.sl 1 es18)), (AV.fz (FV.sl 6 es19)), (AV.fz (FV.int .i64 n19))]) []) ∧ (∃ n20 : Int, (∃ s10 : ByteArray, (∃ b25 : Bool, (∃ es20 : LL, (∃ es21 : LL, (∃ n21 : Int, ((Fn Tryz.prog 24 [(TV.agg [(AV.fz (FV.int .i64 b0)), (AV.fz (FV.str b1)), (AV.fz (FV.bool b2)), (AV.fz (FV.sl 1 b3)), (AV.fz (FV.sl 6 b4)), (AV.fz (FV.int .i64 b5))])] [] (TV.agg [(AV.fz (FV.int .i64 n20)), (AV.fz (FV.str s10)), (AV.fz (FV.bool b25)), (AV.fz (FV.sl 1 es20)), (AV.fz (FV.sl 6 es21)), (AV.fz (FV.int .i64 n21))]) []) ∧ (∃ b26 : Bool, ((Fn Tryz.prog 25 [(TV.agg [(AV.fz (FV.int .i64 n18)), (AV.fz (FV.str s9)), (AV.fz (FV.bool b24)), (AV.fz (FV.sl 1 es18)), (AV.fz (FV.sl 6 es19)), (AV.fz (FV.int .i64 n19))]), (TV.agg [(AV.fz (FV.int .i64 n20)), (AV.fz (FV.str s10)), (AV.fz (FV.bool b25)), (AV.fz (FV.sl 1 es20)), (AV.fz (FV.sl 6 es21)), (AV.fz (FV.int .i64 n21))])] [] (TV.one (AV.fz (FV.bool b26))) []) ∧ (∃ b27 : Bool, ((Fn Tryz.prog 19 [(TV.agg [(AV.fz (FV.int .i64 a0)), (AV.fz (FV.str a1)), (AV.fz (FV.bool a2)), (AV.fz (FV.sl 1 a3)), (AV.fz (FV.sl 6 a4)), (AV.fz (FV.int .i64 a5))]), (TV.agg [(AV.fz (FV.int .i64 b0)), (AV.fz (FV.str b1)), (AV.fz (FV.bool b2)), (AV.fz (FV.sl 1 b3)), (AV.fz (FV.sl 6 b4)), (AV.fz (FV.int .i64 b5))])] [] (TV.one (AV.fz (FV.bool b27))) []) ∧ ((((b26 == b27) = true) → (∃ n22 : Int, (∃ s11 : ByteArray, (∃ b28 : Bool, (∃ es22 : LL, (∃ es23 : LL, (∃ n23 : Int, ((Fn Tryz.prog 24 [(TV.agg [(AV.fz (FV.int .i64 a0)), (AV.fz (FV.str a1)), (AV.fz (FV.bool a2)), (AV.fz (FV.sl 1 a3)), (AV.fz (FV.sl 6 a4)), (AV.fz (FV.int .i64 a5))])] [] (TV.agg [(AV.fz (FV.int .i64 n22)), (AV.fz (FV.str s11)), (AV.fz (FV.bool b28)), (AV.fz (FV.sl 1 es22)), (AV.fz (FV.sl 6 es23)), (AV.fz (FV.int .i64 n23))]) []) ∧ (∃ b29 : Bool, ((Fn Tryz.prog 25 [(TV.agg [(AV.fz (FV.int .i64 n22)), (AV.fz (FV.str s11)), (AV.fz (FV.bool b28)), (AV.fz (FV.sl 1 es22)), (AV.fz (FV.sl 6 es23)), (AV.fz (FV.int .i64 n23))]), (TV.agg [(AV.fz (FV.int .i64 n16)), (AV.fz (FV.str s8)), (AV.fz (FV.bool b22)), (AV.fz (FV.sl 1 es16)), (AV.fz (FV.sl 6 es17)), (AV.fz (FV.int .i64 at_))])] [] (TV.one (AV.fz (FV.bool b29))) []) ∧ (((b29 = true) → (∃ n24 : Int, (∃ s12 : ByteArray, (∃ b30 : Bool, (∃ es24 : LL, (∃ es25 : LL, (∃ n25 : Int, ((Fn Tryz.prog 24 [(TV.agg [(AV.fz (FV.int .i64 b0)), (AV.fz (FV.str b1)), (AV.fz (FV.bool b2)), (AV.fz (FV.sl 1 b3)), (AV.fz (FV.sl 6 b4)), (AV.fz (FV.int .i64 b5))])] [] (TV.agg [(AV.fz (FV.int .i64 n24)), (AV.fz (FV.str s12)), (AV.fz (FV.bool b30)), (AV.fz (FV.sl 1 es24)), (AV.fz (FV.sl 6 es25)), (AV.fz (FV.int .i64 n25))]) []) ∧ (∃ n26 : Int, (∃ s13 : ByteArray, (∃ b31 : Bool, (∃ es26 : LL, (∃ es27 : LL, (∃ n27 : Int, ((Fn Tryz.prog 24 [(TV.agg [(AV.fz (FV.int .i64 a0)), (AV.fz (FV.str a1)), (AV.fz (FV.bool a2)), (AV.fz (FV.sl 1 a3)), (AV.fz (FV.sl 6 a4)), (AV.fz (FV.int .i64 a5))])] [] (TV.agg [(AV.fz (FV.int .i64 n26)), (AV.fz (FV.str s13)), (AV.fz (FV.bool b31)), (AV.fz (FV.sl 1 es26)), (AV.fz (FV.sl 6 es27)), (AV.fz (FV.int .i64 n27))]) []) ∧ (∃ b32 : Bool, ((Fn Tryz.prog 25 [(TV.agg [(AV.fz (FV.int .i64 n24)), (AV.fz (FV.str s12)), (AV.fz (FV.bool b30)), (AV.fz (FV.sl 1 es24)), (AV.fz (FV.sl 6 es25)), (AV.fz (FV.int .i64 n25))]), (TV.agg [(AV.fz (FV.int .i64 n26)), (AV.fz (FV.str s13)), (AV.fz (FV.bool b31)), (AV.fz (FV.sl 1 es26)), (AV.fz (FV.sl 6 es27)), (AV.fz (FV.int .i64 n27))])] [] (TV.one (AV.fz (FV.bool b32))) []) ∧ (∃ n28 : Int, (∃ s14 : ByteArray, (∃ b33 : Bool, (∃ es28 : LL, (∃ es29 : LL, (∃ n29 : Int, ((Fn Tryz.prog 24 [(TV.agg [(AV.fz (FV.int .i64 a0)), (AV.fz (FV.str a1)), (AV.fz (FV.bool a2)), (AV.fz (FV.sl 1 a3)), (AV.fz (FV.sl 6 a4)), (AV.fz (FV.int .i64 a5))])] [] (TV.agg [(AV.fz (FV.int .i64 n28)), (AV.fz (FV.str s14)), (AV.fz (FV.bool b33)), (AV.fz (FV.sl 1 es28)), (AV.fz (FV.sl 6 es29)), (AV.fz (FV.int .i64 n29))]) []) ∧ (∃ n30 : Int, (∃ s15 : ByteArray, (∃ b34 : Bool, (∃ es30 : LL, (∃ es31 : LL, (∃ n31 : Int, ((Fn Tryz.prog 24 [(TV.agg [(AV.fz (FV.int .i64 b0)), (AV.fz (FV.str b1)), (AV.fz (FV.bool b2)), (AV.fz (FV.sl 1 b3)), (AV.fz (FV.sl 6 b4)), (AV.fz (FV.int .i64 b5))])] [] (TV.agg [(AV.fz (FV.int .i64 n30)), (AV.fz (FV.str s15)), (AV.fz (FV.bool b34)), (AV.fz (FV.sl 1 es30)), (AV.fz (FV.sl 6 es31)), (AV.fz (FV.int .i64 n31))]) []) ∧ (∃ b35 : Bool, ((Fn Tryz.prog 25 [(TV.agg [(AV.fz (FV.int .i64 n28)), (AV.fz (FV.str s14)), (AV.fz (FV.bool b33)), (AV.fz (FV.sl 1 es28)), (AV.fz (FV.sl 6 es29)), (AV.fz (FV.int .i64 n29))]), (TV.agg [(AV.fz (FV.int .i64 n30)), (AV.fz (FV.str s15)), (AV.fz (FV.bool b34)), (AV.fz (FV.sl 1 es30)), (AV.fz (FV.sl 6 es31)), (AV.fz (FV.int .i64 n31))])] [] (TV.one (AV.fz (FV.bool b35))) []) ∧ (R (TV.one (AV.fz (FV.bool (b32 == b35)))) [])))))))))))))))))))))))))))))))))) ∧ ((b29 = false) → (R (TV.one (AV.fz (FV.bool false))) []))))))))))))) ∧ (((b26 == b27) = false) → (R (TV.one (AV.fz (FV.bool false))) [])))))))))))))))))))))) ∧ ((b23 = false) → (R (TV.one (AV.fz (FV.bool false))) []))))))))))))))))))))
theorem law04_ReadSame_fn (a0 : Int) (a1 : ByteArray) (a2 : Bool) (a3 : LL) (a4 : LL) (a5 : Int) (b0 : Int) (b1 : ByteArray) (b2 : Bool) (b3 : LL) (b4 : LL) (b5 : Int) (at_ : Int) {r : TV} {h : List Ob} (H : law04_ReadSame_H (fun r' h' => r' = r ∧ h' = h) a0 a1 a2 a3 a4 a5 b0 b1 b2 b3 b4 b5 at_) : Fn Tryz.prog 7 [(TV.agg [(AV.fz (FV.int .i64 a0)), (AV.fz (FV.str a1)), (AV.fz (FV.bool a2)), (AV.fz (FV.sl 1 a3)), (AV.fz (FV.sl 6 a4)), (AV.fz (FV.int .i64 a5))]), (TV.agg [(AV.fz (FV.int .i64 b0)), (AV.fz (FV.str b1)), (AV.fz (FV.bool b2)), (AV.fz (FV.sl 1 b3)), (AV.fz (FV.sl 6 b4)), (AV.fz (FV.int .i64 b5))]), (TV.one (AV.fz (FV.int .i64 at_)))] [] r h :=
 Fn.by_tr (M := (modeOf [] [])) (lv := law04_ReadSame_lv) (own := none) (F := Tryz.f7) (by kernel_rfl) (by kernel_rfl) (by first | decide | simp) (fun _ _ h => h) (by kernel_rfl) H
end
section
mutual
theorem same_comm : ∀ (x y : Dt), x.same y = y.same x
 | .mk k t n l xs a, .mk k' t' n' l' ys a' => by
  unfold Dt.same
  by_cases c : xs.length = ys.length
  ·rw [sameL_comm xs ys c, decide_eq_true c, decide_eq_true c.symm, decide_eq_decide.2 (show k = k' ↔ k' = k from eq_comm), decide_eq_decide.2 (show t = t' ↔ t' = t from eq_comm),
    decide_eq_decide.2 (show (n = n' ∧ l = l') ↔ (n' = n ∧ l' = l) from ⟨fun h => ⟨h.1.symm, h.2.symm⟩, fun h => ⟨h.1.symm, h.2.symm⟩⟩)]
  ·rw [decide_eq_false c, decide_eq_false (show ¬ ys.length = xs.length from fun h => c h.symm)]
   simp
theorem sameL_comm : ∀ (xs ys : List Dt), xs.length = ys.length → Dt.sameL xs ys = Dt.sameL ys xs
 | [], [], _ => rfl
 | [], y :: ys, h => by simp at h
 | x :: xs, [], h => by simp at h
 | x :: xs, y :: ys, h => by
  rw [sameL_cons, sameL_cons, same_comm x y, sameL_comm xs ys (by simpa using h)]
end
def Dt.put (d : Dt) (p : Int) : Dt := match d with
 | .mk k t n l xs _ => .mk k t n l xs p
theorem law_ReadSame (xs : List TV) (h : TyAll Tryz.prog [33, 33, 3] xs) (hb : bulkA xs ≤ 1048576) : Fn Tryz.prog 7 xs [] (.one (.fz (.bool true))) [] := by
 cases h with
 | cons h1 h =>
 cases h with
 | cons h2 h =>
 cases h with
 | cons h3 h =>
 cases h
 simp only [bulkA] at hb
 obtain ⟨a, rfl, ha, _⟩ := tyV_Dt h1 (by omega)
 obtain ⟨b, rfl, hbo, _⟩ := tyV_Dt h2 (by omega)
 obtain ⟨p, rfl, hp0, hp1⟩ := tyV_int h3 Tryz.underlying3
 obtain ⟨b0, c1⟩ := light4_ok a 1 ha
 obtain ⟨b1, c2⟩ := light4_ok b 1 hbo
 have c3 := own4_ok a ha
 have c4 := own4_ok b hbo
 have c5 := pSame_ok a b ha
 have c6 := rSame_ok a b ha
 have c7 := pSame_ok b a hbo
 have c8 : Fn Tryz.prog 25 [fzD a, fzD (a.put p)] [] (fzB true) [] := by
  have := pSame_ok a (a.put p) ha
  have e : a.same (a.put p) = true := by
   clear this
   obtain ⟨k, t, n, l, xs, q⟩ := a
   have := same_self' (.mk k t n l xs q)
   unfold Dt.same at this
   unfold Dt.put Dt.same
   exact this
  rw [e] at this
  exact this
 rw [same_comm b a] at c7
 generalize a.same b = b3 at *
 obtain ⟨k, t, n, l, ys, q⟩ := a
 obtain ⟨k2, t2, n2, l2, ys2, q2⟩ := b
 unfold Dt.put at c8
 unfold fzD at *
 simp only [Dt.row, List.map_cons, List.map_nil] at c1 c2 c3 c4 c5 c6 c7 c8 ⊢
 refine law04_ReadSame_fn _ _ _ _ _ _ _ _ _ _ _ _ _ ?_
 unfold law04_ReadSame_H
 refine ⟨_, c1, fun _ => ⟨_, answers04_ok, rfl, rfl⟩, fun _ => ⟨_, c2, fun _ => ⟨_, answers04_ok, rfl, rfl⟩, fun _ => ⟨_, _, _, _, _, _, c3, _, answers04_ok, fun _ => ⟨_, _, _, _, _, _, c3, _, _, _, _, _, _, c4, _, c5, _, c6, fun _ => ⟨_, _, _, _, _, _, c3, _, c8, fun _ => ⟨_, _, _, _, _, _, c4, _, _, _, _, _, _, c3, _, c7, _, _, _, _, _, _, c3, _, _, _, _, _, _, c4, _, c5, ?_⟩, fun h => (by cases h)⟩, fun h => absurd h (by simp)⟩, fun h => (by cases h)⟩⟩⟩
 rw [beq_self_eq_true]
 exact ⟨rfl, rfl⟩
end
end Go.Proofs.YtenkkekooimpjaaGreatDoor.Ev
end
