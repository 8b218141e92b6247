/-
  Part of a claim: definitions and lemmas that its theorem leans on, packed by wip/tools/pack.py.
-/
import Derived.Test.YtejefchehdifhaaDoorZF3
import Derived.Test.YtejefchehdifhaaDoorRows
import Derived.Test.YtejefchehdifhaaDoorTie
import Derived.Test.YtejefchehdifhaaDoorCards
import Derived.WalkKit
import Derived.ProofKit
import Derived.ShutString
import Derived.LaidMore
import Derived.LaidLaws
import Derived.Lay
import Derived.Stop.Joined
import Derived.SevenTiedAt
set_option linter.unusedVariables false
set_option linter.unusedSimpArgs false
section
set_option linter.unusedVariables false
set_option linter.unusedSimpArgs false
namespace Go.Proofs.YtejefchehdifhaaDoor.Ev
open Go
theorem ValidRune_ok (c : Int) : Fn Tryd.prog 33 [fzI .i32 c] [] (fzB (scalB c)) [] := by
  refine unicode_utf8_ValidRune_fn _ ?_
  obtain ⟨R, hR, hRe⟩ := exR (fzB (scalB c)); rw [hRe]; clear hRe
  have fin : ∀ b, b = scalB c → R (fzB b) [] := fun b h => by rw [h]; exact hR
  unfold unicode_utf8_ValidRune_H
  simp only [dec_t, dec_f]
  unfold scalB at fin
  refine ⟨fun h0 => ⟨fun h1 => fin _ ?_, fun h1 => ⟨fun h2 => ⟨fun h3 => fin _ ?_, fun h3 => fin _ ?_⟩, fun h2 => fin _ ?_⟩⟩, fun h0 => ⟨fun h2 => ⟨fun h3 => fin _ ?_, fun h3 => fin _ ?_⟩, fun h2 => fin _ ?_⟩⟩
  · simp; omega
  · simp; omega
  · simp; omega
  · simp; omega
  · simp; omega
  · simp; omega
  · simp; omega
theorem uScalar_ok (c : Int) : Fn Tryd.prog 19 [fzI .i64 c] [] (fzB (scalB c)) [] := by
  refine utf_Scalar_fn _ ?_
  obtain ⟨R, hR, hRe⟩ := exR (fzB (scalB c)); rw [hRe]; clear hRe
  unfold utf_Scalar_H
  simp only [dec_t, dec_f]
  refine ⟨fun h0 => ⟨fun h1 => ⟨scalB c, ?_, hR⟩, fun h1 => ?_⟩, fun h0 => ?_⟩
  · rw [w32_in (by omega) (by omega)]; exact ValidRune_ok c
  · have : scalB c = false := by unfold scalB; simp; omega
    rw [this] at hR; exact hR
  · have : scalB c = false := by unfold scalB; simp; omega
    rw [this] at hR; exact hR
theorem scanFn1_ok (c : Int) : Fn Tryd.prog 18 [fzI .i64 c] [] (fzB (!(scalB c))) [] := by
  refine token_Scan_1_fn _ ?_
  unfold token_Scan_1_H
  exact ⟨scalB c, uScalar_ok c, rfl, rfl⟩
theorem u8_mod (y : Int) : IntKind.wrap .u8 y = y % 256 := rfl
theorem cont_bits (y : Int) (h : 0 ≤ y) : IntKind.wrap .u8 (((BitVec.toNat ((BitVec.ofInt 8 128) ||| (BitVec.ofInt 8 (IntKind.wrap .u8 (((BitVec.toNat ((BitVec.ofInt 8 (IntKind.wrap .u8 y)) &&& (BitVec.ofInt 8 63))) : Nat) : Int))))) : Nat) : Int) = 128 + y % 64 := by
  have key : ∀ n : Fin 256, IntKind.wrap .u8 (((BitVec.toNat ((BitVec.ofInt 8 128) ||| (BitVec.ofInt 8 (IntKind.wrap .u8 (((BitVec.toNat ((BitVec.ofInt 8 (n.val : Int)) &&& (BitVec.ofInt 8 63))) : Nat) : Int))))) : Nat) : Int) = 128 + (n.val : Int) % 64 := by decide +kernel
  have h2 := key ⟨(y % 256).toNat, by omega⟩
  have h3 : (((y % 256).toNat : Nat) : Int) = y % 256 := by omega
  simp only [h3] at h2
  rw [u8_mod y, h2]
  omega
theorem lead192 (y : Int) (h0 : 0 ≤ y) (h1 : y < 32) : IntKind.wrap .u8 (((BitVec.toNat ((BitVec.ofInt 8 192) ||| (BitVec.ofInt 8 (IntKind.wrap .u8 y)))) : Nat) : Int) = 192 + y := by
  have k1 : ∀ n : Fin 32, IntKind.wrap .u8 (((BitVec.toNat ((BitVec.ofInt 8 192) ||| (BitVec.ofInt 8 (IntKind.wrap .u8 (n.val : Int))))) : Nat) : Int) = 192 + (n.val : Int) := by decide +kernel
  have h3 : ((y.toNat : Nat) : Int) = y := by omega
  have := k1 ⟨y.toNat, by omega⟩
  simp only [h3] at this; exact this
theorem lead224 (y : Int) (h0 : 0 ≤ y) (h1 : y < 16) : IntKind.wrap .u8 (((BitVec.toNat ((BitVec.ofInt 8 224) ||| (BitVec.ofInt 8 (IntKind.wrap .u8 y)))) : Nat) : Int) = 224 + y := by
  have k1 : ∀ n : Fin 16, IntKind.wrap .u8 (((BitVec.toNat ((BitVec.ofInt 8 224) ||| (BitVec.ofInt 8 (IntKind.wrap .u8 (n.val : Int))))) : Nat) : Int) = 224 + (n.val : Int) := by decide +kernel
  have h3 : ((y.toNat : Nat) : Int) = y := by omega
  have := k1 ⟨y.toNat, by omega⟩
  simp only [h3] at this; exact this
theorem lead240 (y : Int) (h0 : 0 ≤ y) (h1 : y < 8) : IntKind.wrap .u8 (((BitVec.toNat ((BitVec.ofInt 8 240) ||| (BitVec.ofInt 8 (IntKind.wrap .u8 y)))) : Nat) : Int) = 240 + y := by
  have k1 : ∀ n : Fin 8, IntKind.wrap .u8 (((BitVec.toNat ((BitVec.ofInt 8 240) ||| (BitVec.ofInt 8 (IntKind.wrap .u8 (n.val : Int))))) : Nat) : Int) = 240 + (n.val : Int) := by decide +kernel
  have h3 : ((y.toNat : Nat) : Int) = y := by omega
  have := k1 ⟨y.toNat, by omega⟩
  simp only [h3] at this; exact this
theorem exW (v : TV) (h : List Ob) : ∃ R : TV → List Ob → Prop, (∀ h', Wk h' h → R v h') ∧ (fun r' h' => r' = v ∧ Wk h' h) = R := ⟨_, fun _ hw => ⟨rfl, hw⟩, rfl⟩
theorem scal_in {c : Int} (h : scalB c = true) : 0 ≤ c ∧ c ≤ 1114111 ∧ ¬ (55296 ≤ c ∧ c ≤ 57343) := by
  unfold scalB at h
  simp only [Bool.and_eq_true, decide_eq_true_eq, Bool.not_eq_true', Bool.and_eq_false_iff, decide_eq_false_iff_not] at h
  omega
theorem fd6 {c : Int} (h : 0 ≤ c) : Int.fdiv c (2 ^ (min (Int.toNat 6) 32)) = c / 64 := Int.fdiv_eq_ediv_of_nonneg c (by decide)
theorem fd12 {c : Int} (h : 0 ≤ c) : Int.fdiv c (2 ^ (min (Int.toNat 12) 32)) = c / 4096 := Int.fdiv_eq_ediv_of_nonneg c (by decide)
theorem fd18 {c : Int} (h : 0 ≤ c) : Int.fdiv c (2 ^ (min (Int.toNat 18) 32)) = c / 262144 := Int.fdiv_eq_ediv_of_nonneg c (by decide)
theorem utfB_two {c : Int} (h : 128 ≤ c) (h2 : c < 2048) : ints .u8 (utfB c) = [[FV.int .u8 (192 + c / 64)], [FV.int .u8 (128 + c % 64)]] := by
  unfold utfB; rw [if_neg (by omega), if_pos h2]; rfl
theorem utfB_three {c : Int} (h : 2048 ≤ c) (h2 : c < 65536) : ints .u8 (utfB c) = [[FV.int .u8 (224 + c / 4096)], [FV.int .u8 (128 + c / 64 % 64)], [FV.int .u8 (128 + c % 64)]] := by
  unfold utfB; rw [if_neg (by omega), if_neg (by omega), if_pos h2]; rfl
theorem utfB_four {c : Int} (h : 65536 ≤ c) : ints .u8 (utfB c) = [[FV.int .u8 (240 + c / 262144)], [FV.int .u8 (128 + c / 4096 % 64)], [FV.int .u8 (128 + c / 64 % 64)], [FV.int .u8 (128 + c % 64)]] := by
  unfold utfB; rw [if_neg (by omega), if_neg (by omega), if_neg (by omega)]; rfl
theorem appNA1 {c : Int} (h : scalB c = true) (hc : 128 ≤ c) (l : List Int) (hl : l.length ≤ 200000000000000) :
    Fn Tryd.prog 86 [.one (.ofl 1 0), fzI .i32 c] [.f 0 1 (ints .u8 l)] (.one (.ofl 1 1)) [.no, .f 0 1 (ints .u8 (l ++ utfB c))] := by
  obtain ⟨h0, h1, hs⟩ := scal_in h
  refine unicode_utf8_appendRuneNonASCII1_fn _ _ ?_
  obtain ⟨R, hR, hRe⟩ := exW (.one (.ofl 1 1)) [.no, .f 0 1 (ints .u8 (l ++ utfB c))]; rw [hRe]; clear hRe
  rw [← ints_app] at hR
  unfold unicode_utf8_appendRuneNonASCII1_H
  simp only [dec_t, dec_f, wu32 h0 (by omega : c ≤ 4294967295), fd6 h0, fd12 h0, fd18 h0, cont_bits c h0, cont_bits (c / 64) (by omega), cont_bits (c / 4096) (by omega), ints_len, List.length_cons, List.length_nil]
  refine ⟨fun a1 => ?_, fun a1 => ⟨fun a2 => ?_, fun a2 => ⟨fun a3 => ⟨fun a4 => ?_, fun a4 => ⟨fun a5 => ⟨fun a6 => ?_, fun a6 => absurd a6 (by omega)⟩, fun a5 => absurd a5 (by omega)⟩⟩, fun a3 => absurd a3 (by omega)⟩⟩⟩
  · rw [lead192 _ (by omega) (by omega), ← utfB_two hc (by omega)]
    exact ⟨by omega, by omega, hR _ (Wk.refl _)⟩
  · rw [lead224 _ (by omega) (by omega), ← utfB_three (by omega) (by omega)]
    exact ⟨by omega, by omega, by omega, hR _ (Wk.refl _)⟩
  · rw [lead224 _ (by omega) (by omega), ← utfB_three (by omega) (by omega)]
    exact ⟨by omega, by omega, by omega, hR _ (Wk.refl _)⟩
  · rw [lead240 _ (by omega) (by omega), ← utfB_four (by omega)]
    exact ⟨by omega, by omega, by omega, by omega, hR _ (Wk.refl _)⟩
theorem append1_ok {c : Int} (h : scalB c = true) (l : List Int) (hl : l.length ≤ 200000000000000) :
    Fn Tryd.prog 75 [.one (.ofl 1 0), fzI .i32 c] [.f 0 1 (ints .u8 l)] (.one (.ofl 1 1)) [.no, .f 0 1 (ints .u8 (l ++ utfB c))] := by
  obtain ⟨h0, h1, hs⟩ := scal_in h
  refine unicode_utf8_AppendRune1_fn _ _ ?_
  obtain ⟨R, hR, hRe⟩ := exW (.one (.ofl 1 1)) [.no, .f 0 1 (ints .u8 (l ++ utfB c))]; rw [hRe]; clear hRe
  unfold unicode_utf8_AppendRune1_H
  simp only [dec_t, dec_f, wu32 h0 (by omega : c ≤ 4294967295), ints_len, List.length_cons, List.length_nil]
  refine ⟨fun a1 => ⟨by omega, ?_⟩, fun a1 => ⟨_, appNA1 h (by omega) l hl, hR _ (Wk.refl _)⟩⟩
  rw [wu8 h0 (by omega), ints_snoc]
  have : utfB c = [c] := by unfold utfB; rw [if_pos (by omega)]
  rw [this] at hR
  exact hR _ (Wk.refl _)
def enc (l : List Int) : List Int := (l.map utfB).flatten
theorem enc_cons (c : Int) (l : List Int) : enc (c :: l) = utfB c ++ enc l := rfl
theorem enc_app (l m : List Int) : enc (l ++ m) = enc l ++ enc m := by simp [enc]
theorem utfB_le (c : Int) : (utfB c).length ≤ 4 := by
  have := utfB_len c
  split at this
  · omega
  · split at this
    · omega
    · split at this <;> omega
theorem enc_len (l : List Int) : (enc l).length ≤ 4 * l.length := by
  induction l with
  | nil => simp [enc]
  | cons c r ih =>
    rw [enc_cons]
    have := utfB_le c
    simp only [List.length_append, List.length_cons]
    omega
theorem utfB_bytes {c : Int} (h : scalB c = true) : Bytes (utfB c) := by
  obtain ⟨h0, h1, hs⟩ := scal_in h
  intro x hx
  unfold utfB at hx
  split at hx
  · simp at hx; omega
  · split at hx
    · simp at hx; omega
    · split at hx
      · simp at hx; omega
      · simp at hx; omega
def Scals (l : List Int) : Prop := ∀ c ∈ l, scalB c = true
theorem enc_bytes {l : List Int} (h : Scals l) : Bytes (enc l) := by
  induction l with
  | nil => intro x hx; cases hx
  | cons c r ih =>
    intro x hx
    rw [enc_cons] at hx
    rcases List.mem_append.1 hx with hx | hx
    · exact utfB_bytes (h c (by simp)) x hx
    · exact ih (fun y hy => h y (by simp [hy])) x hx
theorem encode_loop (l : List Int) (hs : Scals l) (hlen : l.length ≤ 50000000000) (R : TV → List Ob → Prop) (hR : R (.tup [(false, [.fz (.sl 1 (ints .u8 (enc l)))]), (false, [.fz (.int .i64 0)])]) []) :
    ∀ (m i : Nat), l.length - i = m → i ≤ l.length → utf_Encode_L0 R (ints .i64 l) i (ints .u8 (enc (l.take i))) := by
  intro m
  induction m with
  | zero =>
    intro i hi hle
    refine utf_Encode_l0 ?_
    unfold utf_Encode_R0
    simp only [dec_t, dec_f, ints_len]
    refine ⟨fun a => absurd a (by omega), fun _ => ?_⟩
    rw [show i = l.length by omega, List.take_length]
    exact hR
  | succ m ih =>
    intro i hi hle
    refine utf_Encode_l0 ?_
    unfold utf_Encode_R0
    simp only [dec_t, dec_f, ints_len, Int.toNat_natCast]
    refine ⟨fun _ => ⟨by omega, ?_⟩, fun a => absurd a (by omega)⟩
    have hlt : i < l.length := by omega
    have hc : scalB (rd l i) = true := hs _ (by rw [rd_at l i hlt]; exact List.getElem_mem hlt)
    obtain ⟨h0, h1, _⟩ := scal_in hc
    refine ⟨rd l i, ?_, true, ?_, ?_⟩
    · simp [ints, some_rd hlt]
    · have := uScalar_ok (rd l i); rw [hc] at this; exact this
    · simp only [Bool.not_true, Bool.false_eq_true, false_implies, true_and, forall_const]
      rw [w32_in (by omega) (by omega), w64 (by omega) (by omega)]
      have hel := enc_len (l.take i)
      have htl : (l.take i).length ≤ l.length := by simp; omega
      refine ⟨_, append1_ok hc (enc (l.take i)) (by omega), ?_⟩
      have := ih (i + 1) (by omega) (by omega)
      have ht : l.take (i + 1) = l.take i ++ [rd l i] := by rw [List.take_add_one, some_rd hlt]; rfl
      rw [ht, enc_app, show enc [rd l i] = utfB (rd l i) by simp [enc]] at this
      exact this
theorem uEncode_ok (l : List Int) (hs : Scals l) (hlen : l.length ≤ 50000000000) : Fn Tryd.prog 62 [fzS .i64 l] [] (.tup [(false, [.fz (.sl 1 (ints .u8 (enc l)))]), (false, [.fz (.int .i64 0)])]) [] := by
  refine utf_Encode_fn _ ?_
  obtain ⟨R, hR, hRe⟩ := exR (.tup [(false, [.fz (.sl 1 (ints .u8 (enc l)))]), (false, [.fz (.int .i64 0)])]); rw [hRe]; clear hRe
  unfold utf_Encode_H
  exact encode_loop l hs hlen R hR _ 0 rfl (Nat.zero_le _)
end Go.Proofs.YtejefchehdifhaaDoor.Ev
end
section
set_option linter.unusedVariables false
set_option linter.unusedSimpArgs false
namespace Go.Proofs.YtejefchehdifhaaDoor.Ev
open Go
def pkL (l : List Int) (i : Nat) : Int := if i < l.length then rd l i else -1
theorem pkL_drop (t : List Int) (p i : Nat) : pkL (t.drop p) i = pkL t (p + i) := by
  unfold pkL
  rw [rd_dropN, List.length_drop]
  by_cases h : p + i < t.length
  · rw [if_pos (by omega), if_pos h]
  · rw [if_neg (by omega), if_neg h]
def untilN : List Int → Nat
  | [] => 0
  | c :: r => if endsB c = true then 0 else untilN r + 1
theorem untilN_le : ∀ l : List Int, untilN l ≤ l.length
  | [] => Nat.le_refl _
  | c :: r => by
    have := untilN_le r
    unfold untilN
    split <;> simp <;> omega
def blC : Bool → List Int → Nat
  | _, [] => 0
  | true, c :: r => if c = 10 then blC false r + 1 else blC true r + 1
  | false, c :: r => if blankB c = true then blC false r + 1 else if c = 59 then blC true r + 1 else 0
theorem blC_le : ∀ (b : Bool) (l : List Int), blC b l ≤ l.length
  | b, [] => by cases b <;> exact Nat.le_refl _
  | true, c :: r => by
    have h1 := blC_le false r
    have h2 := blC_le true r
    unfold blC
    split <;> simp <;> omega
  | false, c :: r => by
    have h1 := blC_le false r
    have h2 := blC_le true r
    unfold blC
    split
    · simp; omega
    · split <;> simp; omega
def semN : Nat → List Int → Nat
  | 0, _ => 0
  | _ + 1, [] => 0
  | n + 1, c :: r => if c = 59 then 0 else semN n r + 1
theorem semN_le : ∀ (n : Nat) (l : List Int), semN n l ≤ n ∧ semN n l ≤ l.length
  | 0, l => ⟨Nat.le_refl _, Nat.zero_le _⟩
  | n + 1, [] => ⟨Nat.zero_le _, Nat.le_refl _⟩
  | n + 1, c :: r => by
    have := semN_le n r
    unfold semN
    split <;> simp <;> omega
def hexD (c : Int) : Int := if 48 ≤ c ∧ c ≤ 57 then c - 48 else if 97 ≤ c ∧ c ≤ 102 then c - 87 else if 65 ≤ c ∧ c ≤ 70 then c - 55 else -1
def hexR : List Int → Int → Int
  | [], n => if scalB n = true then n else -1
  | c :: r, n => if hexD c < 0 then -1 else hexR r (n * 16 + hexD c)
def hexV (T : List Int) : Int := if 1 ≤ T.length ∧ T.length ≤ 6 then hexR T 0 else -1
def namedV (T : List Int) : Int :=
  if T = [115, 112, 97, 99, 101] then 32 else if T = [110, 101, 119, 108, 105, 110, 101] then 10 else if T = [116, 97, 98] then 9 else if T = [114, 101, 116, 117, 114, 110] then 13
  else if T = [110, 117, 108, 108] then 0 else if T = [100, 101, 108, 101, 116, 101] then 127
  else if (chars T).2 = -1 ∧ (chars T).1.length = 1 then rd (chars T).1 0
  else if 2 ≤ T.length ∧ rd T 0 = 120 then hexV (T.drop 1) else -1
theorem hexR_scal : ∀ (l : List Int) (n : Int), hexR l n = -1 ∨ scalB (hexR l n) = true
  | [], n => by
    unfold hexR
    split
    · exact .inr ‹_›
    · exact .inl rfl
  | c :: r, n => by
    unfold hexR
    split
    · exact .inl rfl
    · exact hexR_scal r _
theorem hexV_scal (T : List Int) : hexV T = -1 ∨ scalB (hexV T) = true := by
  unfold hexV
  split
  · exact hexR_scal _ _
  · exact .inl rfl
end Go.Proofs.YtejefchehdifhaaDoor.Ev
end
section
set_option linter.unusedVariables false
set_option linter.unusedSimpArgs false
namespace Go.Proofs.YtejefchehdifhaaDoor.Ev
open Go
theorem semN_spec : ∀ (n : Nat) (l : List Int), (∀ j, j < semN n l → rd l j ≠ 59) ∧ (semN n l = n ∨ semN n l = l.length ∨ rd l (semN n l) = 59)
  | 0, l => ⟨fun j hj => absurd hj (Nat.not_lt_zero j), .inl rfl⟩
  | n + 1, [] => ⟨fun j hj => absurd hj (Nat.not_lt_zero j), .inr (.inl rfl)⟩
  | n + 1, c :: r => by
    obtain ⟨h1, h2⟩ := semN_spec n r
    have key : semN (n + 1) (c :: r) = if c = 59 then 0 else semN n r + 1 := rfl
    rw [key]
    by_cases hc : c = 59
    · rw [if_pos hc]
      exact ⟨fun j hj => absurd hj (Nat.not_lt_zero j), .inr (.inr hc)⟩
    · rw [if_neg hc]
      refine ⟨fun j hj => ?_, ?_⟩
      · cases j with
        | zero => exact hc
        | succ j => exact h1 j (by omega)
      · rcases h2 with h2 | h2 | h2
        · exact .inl (by omega)
        · exact .inr (.inl (by simp; omega))
        · exact .inr (.inr h2)
def escV (r : List Int) : Int × Nat :=
  let c := pkL r 0
  if c = 110 then (10, 1) else if c = 116 then (9, 1) else if c = 114 then (13, 1) else if c = 92 then (92, 1) else if c = 34 then (34, 1)
  else if c = 120 then (if pkL (r.drop 1) (semN 7 (r.drop 1)) = 59 then (hexV (enc ((r.drop 1).take (semN 7 (r.drop 1)))), semN 7 (r.drop 1) + 2) else (-1, 0)) else (-1, 0)
def strF : Nat → List Int → List Int → Nat → Option (List Int × Nat)
  | 0, _, _, _ => none
  | _ + 1, [], _, _ => none
  | f + 1, c :: r, acc, k => if c = 34 then some (acc, k + 1) else if c ≠ 92 then strF f r (acc ++ [c]) (k + 1) else if (escV r).1 < 0 then none else strF f (r.drop (escV r).2) (acc ++ [(escV r).1]) (k + 1 + (escV r).2)
theorem Scals.drop {l : List Int} (h : Scals l) (n : Nat) : Scals (l.drop n) := fun c hc => h c (List.mem_of_mem_drop hc)
theorem Scals.take {l : List Int} (h : Scals l) (n : Nat) : Scals (l.take n) := fun c hc => h c (List.mem_of_mem_take hc)
theorem Scals.rd {l : List Int} (h : Scals l) {i : Nat} (hi : i < l.length) : scalB (rd l i) = true := h _ (by rw [rd_at l i hi]; exact List.getElem_mem hi)
end Go.Proofs.YtejefchehdifhaaDoor.Ev
end
section
set_option linter.unusedVariables false
set_option maxRecDepth 100000
namespace Go.Proofs.YtejefchehdifhaaDoor.Ev
open Go
def strconv_ParseUint_lv : List Nat → Keep := lvOf []
def strconv_ParseUint_H (R : TV → List Ob → Prop) (s : ByteArray) : Prop :=
  (∃ n1 : Int, (∃ b2 : Bool, ((Fn Tryd.prog 82 [(TV.one (AV.fz (FV.str s))), (TV.one (AV.fz (FV.int .i64 16))), (TV.one (AV.fz (FV.int .i64 32)))] [] (TV.tup [(false, [(AV.fz (FV.int .u64 n1))]), (false, [(AV.fz (FV.ifc b2))])]) []) ∧ (ifB (Bool.not (Bool.not b2)) (∃ b3 : Bool, ((Fn Tryd.prog 58 [(TV.one (AV.fz (FV.str (ByteArray.mk #[80, 97, 114, 115, 101, 85, 105, 110, 116])))), (TV.one (AV.fz (FV.str s))), (TV.one (AV.fz (FV.int .i64 16))), (TV.one (AV.fz (FV.int .i64 32))), (TV.one (AV.fz (FV.ifc b2)))] [] (TV.one (AV.fz (FV.ifc b3))) []) ∧ (R (TV.tup [(false, [(AV.fz (FV.int .u64 n1))]), (false, [(AV.fz (FV.ifc b3))])]) []))) (R (TV.tup [(false, [(AV.fz (FV.int .u64 n1))]), (false, [(AV.fz (FV.ifc false))])]) [])))))
theorem strconv_ParseUint_fn (s : ByteArray) {r : TV} {h : List Ob} (H : strconv_ParseUint_H (fun r' h' => r' = r ∧ h' = h) s) : Fn Tryd.prog 78 [(TV.one (AV.fz (FV.str s))), (TV.one (AV.fz (FV.int .i64 16))), (TV.one (AV.fz (FV.int .i64 32)))] [] r h :=
  Fn.by_tr (M := (modeC [] [])) (lv := strconv_ParseUint_lv) (own := none) (F := Tryd.f78) (by kernel_rfl) (by kernel_rfl) (by first | decide | simp) (fun _ _ h => h) (by kernel_rfl) H
def internal_strconv_ParseUint_lv : List Nat → Keep := lvOf [([0, 1, 0, 1, 1, 1, 1, 1, 1, 1, 1, 1, 1, 1], ⟨4436777100798802905238461234946, 0, [], false, false⟩)]
def internal_strconv_ParseUint_S0 (s : ByteArray) (n13 : Int) (i : Int) : St := (St.mk [TV.und, (TV.one (AV.fz (FV.int .i64 16))), TV.und, TV.und, TV.und, TV.und, TV.und, TV.und, (TV.one (AV.fz (FV.bool ((16 : Int) == 0)))), (TV.one (AV.fz (FV.str s))), (TV.one (AV.fz (FV.int .u64 1152921504606846976))), (TV.one (AV.fz (FV.int .u64 (IntKind.wrap .u64 ((IntKind.wrap .u64 (1 * (2 ^ (min (Int.toNat (IntKind.wrap .u64 32)) 64)))) - 1))))), (TV.one (AV.fz (FV.bool false))), (TV.one (AV.fz (FV.int .u64 n13))), TV.und, TV.und, TV.und, TV.und, TV.und, TV.und, TV.und, TV.und, TV.und, TV.und, TV.und, TV.und, TV.und, TV.und, TV.und, TV.und, TV.und, TV.und, TV.und, TV.und, TV.und, TV.und, TV.und, TV.und, TV.und, TV.und, TV.und, TV.und, TV.und, TV.und, TV.und, TV.und, TV.und, TV.und, TV.und, TV.und, TV.und, TV.und, TV.und, TV.und, TV.und, TV.und, TV.und, TV.und, TV.und, TV.und, TV.und, TV.und, TV.und, TV.und, TV.und, TV.und, TV.und, TV.und, TV.und, TV.und, TV.und, TV.und, TV.und, TV.und, TV.und, TV.und, TV.und, TV.und, TV.und, TV.und, TV.und, TV.und, TV.und, TV.und, TV.und, TV.und, TV.und, TV.und, TV.und, TV.und, TV.und, TV.und, TV.und, TV.und, TV.und, TV.und, TV.und, TV.und, TV.und, (TV.one (AV.fz (FV.sl 1 (List.map (fun b7 => [(FV.int .u8 (((UInt8.toNat b7) : Nat) : Int))]) (Array.toList (ByteArray.data s)))))), (TV.one (AV.fz (FV.int .i64 (((List.length (List.map (fun b8 => [(FV.int .u8 (((UInt8.toNat b8) : Nat) : Int))]) (Array.toList (ByteArray.data s)))) : Nat) : Int)))), (TV.one (AV.fz (FV.int .i64 i))), TV.und, TV.und, TV.und, TV.und, TV.und, TV.und, TV.und, TV.und, TV.und, TV.und, TV.und, TV.und, TV.und, TV.und, TV.und, TV.und, TV.und, TV.und, TV.und, TV.und, TV.und, TV.und, TV.und, TV.und, TV.und, TV.und, TV.und, TV.und, TV.und, TV.und, TV.und, TV.und, TV.und, TV.und, TV.und, TV.und, TV.und, TV.und, TV.und, TV.und, TV.und, TV.und, TV.und, TV.und, TV.und, TV.und, TV.und, TV.und, TV.und, TV.und, TV.und, TV.und, TV.und, TV.und, TV.und, TV.und, TV.und, TV.und, TV.und, TV.und, TV.und, TV.und, TV.und, TV.und, TV.und, TV.und, TV.und, TV.und, TV.und, TV.und] [])
def internal_strconv_ParseUint_L0 (R : TV → List Ob → Prop) (s : ByteArray) (n13 : Int) (i : Int) : Prop := LoopAt Tryd.prog (modeC [] []) internal_strconv_ParseUint_lv Tryd.f82 none R [1, 1, 1, 1, 1, 1, 1, 1, 1, 1, 1, 0, 1, 0] (internal_strconv_ParseUint_S0 s n13 i)
def internal_strconv_ParseUint_R0 (R : TV → List Ob → Prop) (s : ByteArray) (n13 : Int) (i : Int) : Prop :=
  (ifB (decide (i < (((List.length (List.map (fun b6 => [(FV.int .u8 (((UInt8.toNat b6) : Nat) : Int))]) (Array.toList (ByteArray.data s)))) : Nat) : Int))) (((0 : Int) ≤ i) ∧ (∃ n27 : Int, ((((List.map (fun b5 => [(FV.int .u8 (((UInt8.toNat b5) : Nat) : Int))]) (Array.toList (ByteArray.data s))))[(Int.toNat i)]? = (some [(FV.int .u8 n27)])) ∧ (ifB (n27 == 95) (ifB (decide ((48 : Int) ≤ n27)) (ifB (decide (n27 ≤ 57)) (ifB (decide ((IntKind.wrap .u8 16) ≤ (IntKind.wrap .u8 (n27 - 48)))) (R (TV.tup [(false, [(AV.fz (FV.int .u64 0))]), (false, [(AV.fz (FV.ifv 108 false [(FV.int .i64 2)]))])]) []) (ifB (decide ((1152921504606846976 : Int) ≤ n13)) (R (TV.tup [(false, [(AV.fz (FV.int .u64 (IntKind.wrap .u64 ((IntKind.wrap .u64 (1 * (2 ^ (min (Int.toNat (IntKind.wrap .u64 32)) 64)))) - 1))))]), (false, [(AV.fz (FV.ifv 108 false [(FV.int .i64 1)]))])]) []) (ifB (decide ((IntKind.wrap .u64 ((IntKind.wrap .u64 (n13 * (IntKind.wrap .u64 16))) + (IntKind.wrap .u64 (IntKind.wrap .u8 (n27 - 48))))) < (IntKind.wrap .u64 (n13 * (IntKind.wrap .u64 16))))) (R (TV.tup [(false, [(AV.fz (FV.int .u64 (IntKind.wrap .u64 ((IntKind.wrap .u64 (1 * (2 ^ (min (Int.toNat (IntKind.wrap .u64 32)) 64)))) - 1))))]), (false, [(AV.fz (FV.ifv 108 false [(FV.int .i64 1)]))])]) []) (ifB (decide ((IntKind.wrap .u64 ((IntKind.wrap .u64 (1 * (2 ^ (min (Int.toNat (IntKind.wrap .u64 32)) 64)))) - 1)) < (IntKind.wrap .u64 ((IntKind.wrap .u64 (n13 * (IntKind.wrap .u64 16))) + (IntKind.wrap .u64 (IntKind.wrap .u8 (n27 - 48))))))) (R (TV.tup [(false, [(AV.fz (FV.int .u64 (IntKind.wrap .u64 ((IntKind.wrap .u64 (1 * (2 ^ (min (Int.toNat (IntKind.wrap .u64 32)) 64)))) - 1))))]), (false, [(AV.fz (FV.ifv 108 false [(FV.int .i64 1)]))])]) []) (internal_strconv_ParseUint_L0 R s (IntKind.wrap .u64 ((IntKind.wrap .u64 (n13 * (IntKind.wrap .u64 16))) + (IntKind.wrap .u64 (IntKind.wrap .u8 (n27 - 48))))) (IntKind.wrap .i64 (i + 1))))))) (∃ n28 : Int, ((Fn Tryd.prog 90 [(TV.one (AV.fz (FV.int .u8 n27)))] [] (TV.one (AV.fz (FV.int .u8 n28))) []) ∧ (ifB (decide ((97 : Int) ≤ n28)) (∃ n29 : Int, ((Fn Tryd.prog 90 [(TV.one (AV.fz (FV.int .u8 n27)))] [] (TV.one (AV.fz (FV.int .u8 n29))) []) ∧ (ifB (decide (n29 ≤ 122)) (∃ n30 : Int, ((Fn Tryd.prog 90 [(TV.one (AV.fz (FV.int .u8 n27)))] [] (TV.one (AV.fz (FV.int .u8 n30))) []) ∧ (ifB (decide ((IntKind.wrap .u8 16) ≤ (IntKind.wrap .u8 ((IntKind.wrap .u8 (n30 - 97)) + 10)))) (R (TV.tup [(false, [(AV.fz (FV.int .u64 0))]), (false, [(AV.fz (FV.ifv 108 false [(FV.int .i64 2)]))])]) []) (ifB (decide ((1152921504606846976 : Int) ≤ n13)) (R (TV.tup [(false, [(AV.fz (FV.int .u64 (IntKind.wrap .u64 ((IntKind.wrap .u64 (1 * (2 ^ (min (Int.toNat (IntKind.wrap .u64 32)) 64)))) - 1))))]), (false, [(AV.fz (FV.ifv 108 false [(FV.int .i64 1)]))])]) []) (ifB (decide ((IntKind.wrap .u64 ((IntKind.wrap .u64 (n13 * (IntKind.wrap .u64 16))) + (IntKind.wrap .u64 (IntKind.wrap .u8 ((IntKind.wrap .u8 (n30 - 97)) + 10))))) < (IntKind.wrap .u64 (n13 * (IntKind.wrap .u64 16))))) (R (TV.tup [(false, [(AV.fz (FV.int .u64 (IntKind.wrap .u64 ((IntKind.wrap .u64 (1 * (2 ^ (min (Int.toNat (IntKind.wrap .u64 32)) 64)))) - 1))))]), (false, [(AV.fz (FV.ifv 108 false [(FV.int .i64 1)]))])]) []) (ifB (decide ((IntKind.wrap .u64 ((IntKind.wrap .u64 (1 * (2 ^ (min (Int.toNat (IntKind.wrap .u64 32)) 64)))) - 1)) < (IntKind.wrap .u64 ((IntKind.wrap .u64 (n13 * (IntKind.wrap .u64 16))) + (IntKind.wrap .u64 (IntKind.wrap .u8 ((IntKind.wrap .u8 (n30 - 97)) + 10))))))) (R (TV.tup [(false, [(AV.fz (FV.int .u64 (IntKind.wrap .u64 ((IntKind.wrap .u64 (1 * (2 ^ (min (Int.toNat (IntKind.wrap .u64 32)) 64)))) - 1))))]), (false, [(AV.fz (FV.ifv 108 false [(FV.int .i64 1)]))])]) []) (internal_strconv_ParseUint_L0 R s (IntKind.wrap .u64 ((IntKind.wrap .u64 (n13 * (IntKind.wrap .u64 16))) + (IntKind.wrap .u64 (IntKind.wrap .u8 ((IntKind.wrap .u8 (n30 - 97)) + 10))))) (IntKind.wrap .i64 (i + 1))))))))) (R (TV.tup [(false, [(AV.fz (FV.int .u64 0))]), (false, [(AV.fz (FV.ifv 108 false [(FV.int .i64 2)]))])]) [])))) (R (TV.tup [(false, [(AV.fz (FV.int .u64 0))]), (false, [(AV.fz (FV.ifv 108 false [(FV.int .i64 2)]))])]) []))))) (∃ n31 : Int, ((Fn Tryd.prog 90 [(TV.one (AV.fz (FV.int .u8 n27)))] [] (TV.one (AV.fz (FV.int .u8 n31))) []) ∧ (ifB (decide ((97 : Int) ≤ n31)) (∃ n32 : Int, ((Fn Tryd.prog 90 [(TV.one (AV.fz (FV.int .u8 n27)))] [] (TV.one (AV.fz (FV.int .u8 n32))) []) ∧ (ifB (decide (n32 ≤ 122)) (∃ n33 : Int, ((Fn Tryd.prog 90 [(TV.one (AV.fz (FV.int .u8 n27)))] [] (TV.one (AV.fz (FV.int .u8 n33))) []) ∧ (ifB (decide ((IntKind.wrap .u8 16) ≤ (IntKind.wrap .u8 ((IntKind.wrap .u8 (n33 - 97)) + 10)))) (R (TV.tup [(false, [(AV.fz (FV.int .u64 0))]), (false, [(AV.fz (FV.ifv 108 false [(FV.int .i64 2)]))])]) []) (ifB (decide ((1152921504606846976 : Int) ≤ n13)) (R (TV.tup [(false, [(AV.fz (FV.int .u64 (IntKind.wrap .u64 ((IntKind.wrap .u64 (1 * (2 ^ (min (Int.toNat (IntKind.wrap .u64 32)) 64)))) - 1))))]), (false, [(AV.fz (FV.ifv 108 false [(FV.int .i64 1)]))])]) []) (ifB (decide ((IntKind.wrap .u64 ((IntKind.wrap .u64 (n13 * (IntKind.wrap .u64 16))) + (IntKind.wrap .u64 (IntKind.wrap .u8 ((IntKind.wrap .u8 (n33 - 97)) + 10))))) < (IntKind.wrap .u64 (n13 * (IntKind.wrap .u64 16))))) (R (TV.tup [(false, [(AV.fz (FV.int .u64 (IntKind.wrap .u64 ((IntKind.wrap .u64 (1 * (2 ^ (min (Int.toNat (IntKind.wrap .u64 32)) 64)))) - 1))))]), (false, [(AV.fz (FV.ifv 108 false [(FV.int .i64 1)]))])]) []) (ifB (decide ((IntKind.wrap .u64 ((IntKind.wrap .u64 (1 * (2 ^ (min (Int.toNat (IntKind.wrap .u64 32)) 64)))) - 1)) < (IntKind.wrap .u64 ((IntKind.wrap .u64 (n13 * (IntKind.wrap .u64 16))) + (IntKind.wrap .u64 (IntKind.wrap .u8 ((IntKind.wrap .u8 (n33 - 97)) + 10))))))) (R (TV.tup [(false, [(AV.fz (FV.int .u64 (IntKind.wrap .u64 ((IntKind.wrap .u64 (1 * (2 ^ (min (Int.toNat (IntKind.wrap .u64 32)) 64)))) - 1))))]), (false, [(AV.fz (FV.ifv 108 false [(FV.int .i64 1)]))])]) []) (internal_strconv_ParseUint_L0 R s (IntKind.wrap .u64 ((IntKind.wrap .u64 (n13 * (IntKind.wrap .u64 16))) + (IntKind.wrap .u64 (IntKind.wrap .u8 ((IntKind.wrap .u8 (n33 - 97)) + 10))))) (IntKind.wrap .i64 (i + 1))))))))) (R (TV.tup [(false, [(AV.fz (FV.int .u64 0))]), (false, [(AV.fz (FV.ifv 108 false [(FV.int .i64 2)]))])]) [])))) (R (TV.tup [(false, [(AV.fz (FV.int .u64 0))]), (false, [(AV.fz (FV.ifv 108 false [(FV.int .i64 2)]))])]) []))))) (ifB (decide ((48 : Int) ≤ n27)) (ifB (decide (n27 ≤ 57)) (ifB (decide ((IntKind.wrap .u8 16) ≤ (IntKind.wrap .u8 (n27 - 48)))) (R (TV.tup [(false, [(AV.fz (FV.int .u64 0))]), (false, [(AV.fz (FV.ifv 108 false [(FV.int .i64 2)]))])]) []) (ifB (decide ((1152921504606846976 : Int) ≤ n13)) (R (TV.tup [(false, [(AV.fz (FV.int .u64 (IntKind.wrap .u64 ((IntKind.wrap .u64 (1 * (2 ^ (min (Int.toNat (IntKind.wrap .u64 32)) 64)))) - 1))))]), (false, [(AV.fz (FV.ifv 108 false [(FV.int .i64 1)]))])]) []) (ifB (decide ((IntKind.wrap .u64 ((IntKind.wrap .u64 (n13 * (IntKind.wrap .u64 16))) + (IntKind.wrap .u64 (IntKind.wrap .u8 (n27 - 48))))) < (IntKind.wrap .u64 (n13 * (IntKind.wrap .u64 16))))) (R (TV.tup [(false, [(AV.fz (FV.int .u64 (IntKind.wrap .u64 ((IntKind.wrap .u64 (1 * (2 ^ (min (Int.toNat (IntKind.wrap .u64 32)) 64)))) - 1))))]), (false, [(AV.fz (FV.ifv 108 false [(FV.int .i64 1)]))])]) []) (ifB (decide ((IntKind.wrap .u64 ((IntKind.wrap .u64 (1 * (2 ^ (min (Int.toNat (IntKind.wrap .u64 32)) 64)))) - 1)) < (IntKind.wrap .u64 ((IntKind.wrap .u64 (n13 * (IntKind.wrap .u64 16))) + (IntKind.wrap .u64 (IntKind.wrap .u8 (n27 - 48))))))) (R (TV.tup [(false, [(AV.fz (FV.int .u64 (IntKind.wrap .u64 ((IntKind.wrap .u64 (1 * (2 ^ (min (Int.toNat (IntKind.wrap .u64 32)) 64)))) - 1))))]), (false, [(AV.fz (FV.ifv 108 false [(FV.int .i64 1)]))])]) []) (internal_strconv_ParseUint_L0 R s (IntKind.wrap .u64 ((IntKind.wrap .u64 (n13 * (IntKind.wrap .u64 16))) + (IntKind.wrap .u64 (IntKind.wrap .u8 (n27 - 48))))) (IntKind.wrap .i64 (i + 1))))))) (∃ n34 : Int, ((Fn Tryd.prog 90 [(TV.one (AV.fz (FV.int .u8 n27)))] [] (TV.one (AV.fz (FV.int .u8 n34))) []) ∧ (ifB (decide ((97 : Int) ≤ n34)) (∃ n35 : Int, ((Fn Tryd.prog 90 [(TV.one (AV.fz (FV.int .u8 n27)))] [] (TV.one (AV.fz (FV.int .u8 n35))) []) ∧ (ifB (decide (n35 ≤ 122)) (∃ n36 : Int, ((Fn Tryd.prog 90 [(TV.one (AV.fz (FV.int .u8 n27)))] [] (TV.one (AV.fz (FV.int .u8 n36))) []) ∧ (ifB (decide ((IntKind.wrap .u8 16) ≤ (IntKind.wrap .u8 ((IntKind.wrap .u8 (n36 - 97)) + 10)))) (R (TV.tup [(false, [(AV.fz (FV.int .u64 0))]), (false, [(AV.fz (FV.ifv 108 false [(FV.int .i64 2)]))])]) []) (ifB (decide ((1152921504606846976 : Int) ≤ n13)) (R (TV.tup [(false, [(AV.fz (FV.int .u64 (IntKind.wrap .u64 ((IntKind.wrap .u64 (1 * (2 ^ (min (Int.toNat (IntKind.wrap .u64 32)) 64)))) - 1))))]), (false, [(AV.fz (FV.ifv 108 false [(FV.int .i64 1)]))])]) []) (ifB (decide ((IntKind.wrap .u64 ((IntKind.wrap .u64 (n13 * (IntKind.wrap .u64 16))) + (IntKind.wrap .u64 (IntKind.wrap .u8 ((IntKind.wrap .u8 (n36 - 97)) + 10))))) < (IntKind.wrap .u64 (n13 * (IntKind.wrap .u64 16))))) (R (TV.tup [(false, [(AV.fz (FV.int .u64 (IntKind.wrap .u64 ((IntKind.wrap .u64 (1 * (2 ^ (min (Int.toNat (IntKind.wrap .u64 32)) 64)))) - 1))))]), (false, [(AV.fz (FV.ifv 108 false [(FV.int .i64 1)]))])]) []) (ifB (decide ((IntKind.wrap .u64 ((IntKind.wrap .u64 (1 * (2 ^ (min (Int.toNat (IntKind.wrap .u64 32)) 64)))) - 1)) < (IntKind.wrap .u64 ((IntKind.wrap .u64 (n13 * (IntKind.wrap .u64 16))) + (IntKind.wrap .u64 (IntKind.wrap .u8 ((IntKind.wrap .u8 (n36 - 97)) + 10))))))) (R (TV.tup [(false, [(AV.fz (FV.int .u64 (IntKind.wrap .u64 ((IntKind.wrap .u64 (1 * (2 ^ (min (Int.toNat (IntKind.wrap .u64 32)) 64)))) - 1))))]), (false, [(AV.fz (FV.ifv 108 false [(FV.int .i64 1)]))])]) []) (internal_strconv_ParseUint_L0 R s (IntKind.wrap .u64 ((IntKind.wrap .u64 (n13 * (IntKind.wrap .u64 16))) + (IntKind.wrap .u64 (IntKind.wrap .u8 ((IntKind.wrap .u8 (n36 - 97)) + 10))))) (IntKind.wrap .i64 (i + 1))))))))) (R (TV.tup [(false, [(AV.fz (FV.int .u64 0))]), (false, [(AV.fz (FV.ifv 108 false [(FV.int .i64 2)]))])]) [])))) (R (TV.tup [(false, [(AV.fz (FV.int .u64 0))]), (false, [(AV.fz (FV.ifv 108 false [(FV.int .i64 2)]))])]) []))))) (∃ n37 : Int, ((Fn Tryd.prog 90 [(TV.one (AV.fz (FV.int .u8 n27)))] [] (TV.one (AV.fz (FV.int .u8 n37))) []) ∧ (ifB (decide ((97 : Int) ≤ n37)) (∃ n38 : Int, ((Fn Tryd.prog 90 [(TV.one (AV.fz (FV.int .u8 n27)))] [] (TV.one (AV.fz (FV.int .u8 n38))) []) ∧ (ifB (decide (n38 ≤ 122)) (∃ n39 : Int, ((Fn Tryd.prog 90 [(TV.one (AV.fz (FV.int .u8 n27)))] [] (TV.one (AV.fz (FV.int .u8 n39))) []) ∧ (ifB (decide ((IntKind.wrap .u8 16) ≤ (IntKind.wrap .u8 ((IntKind.wrap .u8 (n39 - 97)) + 10)))) (R (TV.tup [(false, [(AV.fz (FV.int .u64 0))]), (false, [(AV.fz (FV.ifv 108 false [(FV.int .i64 2)]))])]) []) (ifB (decide ((1152921504606846976 : Int) ≤ n13)) (R (TV.tup [(false, [(AV.fz (FV.int .u64 (IntKind.wrap .u64 ((IntKind.wrap .u64 (1 * (2 ^ (min (Int.toNat (IntKind.wrap .u64 32)) 64)))) - 1))))]), (false, [(AV.fz (FV.ifv 108 false [(FV.int .i64 1)]))])]) []) (ifB (decide ((IntKind.wrap .u64 ((IntKind.wrap .u64 (n13 * (IntKind.wrap .u64 16))) + (IntKind.wrap .u64 (IntKind.wrap .u8 ((IntKind.wrap .u8 (n39 - 97)) + 10))))) < (IntKind.wrap .u64 (n13 * (IntKind.wrap .u64 16))))) (R (TV.tup [(false, [(AV.fz (FV.int .u64 (IntKind.wrap .u64 ((IntKind.wrap .u64 (1 * (2 ^ (min (Int.toNat (IntKind.wrap .u64 32)) 64)))) - 1))))]), (false, [(AV.fz (FV.ifv 108 false [(FV.int .i64 1)]))])]) []) (ifB (decide ((IntKind.wrap .u64 ((IntKind.wrap .u64 (1 * (2 ^ (min (Int.toNat (IntKind.wrap .u64 32)) 64)))) - 1)) < (IntKind.wrap .u64 ((IntKind.wrap .u64 (n13 * (IntKind.wrap .u64 16))) + (IntKind.wrap .u64 (IntKind.wrap .u8 ((IntKind.wrap .u8 (n39 - 97)) + 10))))))) (R (TV.tup [(false, [(AV.fz (FV.int .u64 (IntKind.wrap .u64 ((IntKind.wrap .u64 (1 * (2 ^ (min (Int.toNat (IntKind.wrap .u64 32)) 64)))) - 1))))]), (false, [(AV.fz (FV.ifv 108 false [(FV.int .i64 1)]))])]) []) (internal_strconv_ParseUint_L0 R s (IntKind.wrap .u64 ((IntKind.wrap .u64 (n13 * (IntKind.wrap .u64 16))) + (IntKind.wrap .u64 (IntKind.wrap .u8 ((IntKind.wrap .u8 (n39 - 97)) + 10))))) (IntKind.wrap .i64 (i + 1))))))))) (R (TV.tup [(false, [(AV.fz (FV.int .u64 0))]), (false, [(AV.fz (FV.ifv 108 false [(FV.int .i64 2)]))])]) [])))) (R (TV.tup [(false, [(AV.fz (FV.int .u64 0))]), (false, [(AV.fz (FV.ifv 108 false [(FV.int .i64 2)]))])]) []))))))))) (R (TV.tup [(false, [(AV.fz (FV.int .u64 n13))]), (false, [(AV.fz (FV.ifc false))])]) []))
theorem internal_strconv_ParseUint_l0 {R : TV → List Ob → Prop} {s : ByteArray} {n13 : Int} {i : Int} (h : internal_strconv_ParseUint_R0 R s n13 i) : internal_strconv_ParseUint_L0 R s n13 i :=
  LoopAt.by_tr (by kernel_rfl) (by kernel_rfl) h
def internal_strconv_ParseUint_H (R : TV → List Ob → Prop) (s : ByteArray) : Prop :=
  (ifB ((ByteArray.toList s) == (ByteArray.toList (ByteArray.mk #[]))) (R (TV.tup [(false, [(AV.fz (FV.int .u64 0))]), (false, [(AV.fz (FV.ifv 108 false [(FV.int .i64 2)]))])]) []) (((0 : Int) ≤ (IntKind.wrap .u64 32)) ∧ (internal_strconv_ParseUint_L0 R s 0 0)))
theorem internal_strconv_ParseUint_fn (s : ByteArray) {r : TV} {h : List Ob} (H : internal_strconv_ParseUint_H (fun r' h' => r' = r ∧ h' = h) s) : Fn Tryd.prog 82 [(TV.one (AV.fz (FV.str s))), (TV.one (AV.fz (FV.int .i64 16))), (TV.one (AV.fz (FV.int .i64 32)))] [] r h :=
  Fn.by_tr (M := (modeC [] [])) (lv := internal_strconv_ParseUint_lv) (own := none) (F := Tryd.f82) (by kernel_rfl) (by kernel_rfl) (by first | decide | simp) (fun _ _ h => h) (by kernel_rfl) H
end Go.Proofs.YtejefchehdifhaaDoor.Ev
end
section
set_option linter.unusedVariables false
set_option linter.unusedSimpArgs false
namespace Go.Proofs.YtejefchehdifhaaDoor.Ev
open Go
def hexA : List Int → Int → Int
  | [], n => n
  | c :: r, n => hexA r (n * 16 + hexD c)
def hexOk (l : List Int) : Bool := l.all fun c => decide (0 ≤ hexD c)
theorem hexR_eq : ∀ (l : List Int) (n : Int), hexR l n = if hexOk l = true then (if scalB (hexA l n) = true then hexA l n else -1) else -1
  | [], n => rfl
  | c :: r, n => by
    have ih := hexR_eq r (n * 16 + hexD c)
    unfold hexR hexA
    by_cases h : hexD c < 0
    · rw [if_pos h, if_neg]
      unfold hexOk
      simp
      omega
    · rw [if_neg h, ih]
      have : hexOk (c :: r) = hexOk r := by
        unfold hexOk
        simp
        omega
      rw [this]
theorem hexD_lt (c : Int) : hexD c < 16 := by
  unfold hexD
  repeat' split
  all_goals omega
theorem hexA_bound : ∀ (l : List Int) (n B : Int), hexOk l = true → 0 ≤ n → n < B → 0 ≤ hexA l n ∧ hexA l n < B * 16 ^ l.length
  | [], n, B, h, h0, h1 => by simp [hexA, h0, h1]
  | c :: r, n, B, h, h0, h1 => by
    unfold hexOk at h
    simp only [List.all_cons, Bool.and_eq_true, decide_eq_true_eq] at h
    have := hexD_lt c
    have ih := hexA_bound r (n * 16 + hexD c) (B * 16) h.2 (by omega) (by omega)
    unfold hexA
    rw [List.length_cons, Int.pow_succ, Int.mul_comm (16 ^ r.length) 16, ← Int.mul_assoc]
    exact ih
theorem hex_tab : ∀ n : Fin 256, ([48, 49, 50, 51, 52, 53, 54, 55, 56, 57, 97, 98, 99, 100, 101, 102, 65, 66, 67, 68, 69, 70] : List UInt8).contains (UInt8.ofNat n.val) = decide (0 ≤ hexD (n.val : Int)) := by decide +kernel
theorem all_hex {X : List Int} (hX : Bytes X) : (X.map fun n => UInt8.ofNat n.toNat).all (([48, 49, 50, 51, 52, 53, 54, 55, 56, 57, 97, 98, 99, 100, 101, 102, 65, 66, 67, 68, 69, 70] : List UInt8).contains ·) = hexOk X := by
  unfold hexOk
  rw [Bool.eq_iff_iff, List.all_map, List.all_eq_true, List.all_eq_true]
  refine forall_congr' fun x => ⟨fun h hx => ?_, fun h hx => ?_⟩
  all_goals
    have h1 := h hx
    have h2 := hX x hx
    have h3 := hex_tab ⟨x.toNat, by omega⟩
    simp only at h3
    rw [show ((x.toNat : Nat) : Int) = x by omega] at h3
    simp only [Function.comp_apply] at h1 ⊢
  · rw [← h3]; exact h1
  · rw [h3]; exact h1
theorem trim_hex {X : List Int} (hX : Bytes X) : ((ByteArray.toList ⟨(Lib.trimS (bytesOf X).data.toList (ByteArray.mk #[48, 49, 50, 51, 52, 53, 54, 55, 56, 57, 97, 98, 99, 100, 101, 102, 65, 66, 67, 68, 69, 70]).data.toList).toArray⟩) == ByteArray.toList (ByteArray.mk #[])) = hexOk X := by
  rw [ByteArray.toList_eq, ByteArray.toList_eq, ← all_hex hX, data_of]
  generalize X.map (fun n => UInt8.ofNat n.toNat) = l
  rw [Bool.eq_iff_iff, ← trim_nil, beq_iff_eq]
  rfl
def lowV (c : Int) : Int := IntKind.wrap .u8 (((BitVec.toNat ((BitVec.ofInt 8 c) ||| (BitVec.ofInt 8 32))) : Nat) : Int)
theorem low_tab : ∀ n : Fin 256, 0 ≤ hexD (n.val : Int) → ¬ (48 ≤ (n.val : Int) ∧ (n.val : Int) ≤ 57) → lowV (n.val : Int) = hexD (n.val : Int) + 87 := by decide +kernel
theorem lower_ok (c : Int) : Fn Tryd.prog 90 [fzI .u8 c] [] (fzI .u8 (lowV c)) [] := by
  refine internal_strconv_lower_fn _ ?_
  unfold internal_strconv_lower_H
  exact ⟨rfl, rfl⟩
theorem ifB_t {b : Bool} {y n : Prop} (h : b = true) (hy : y) : ifB b y n := by rw [h]; exact hy
theorem ifB_f {b : Bool} {y n : Prop} (h : b = false) (hn : n) : ifB b y n := by rw [h]; exact hn
abbrev puT (n : Int) (b : Bool) : TV := .tup [(false, [.fz (.int .u64 n)]), (false, [.fz (.ifc b)])]
theorem pHex_loop (T : List Int) (hT : Bytes T) (hlen : T.length ≤ 6) (hok : hexOk T = true) (R : TV → List Ob → Prop) : ∀ (m i : Nat) (n : Int), T.length - i = m → i ≤ T.length → 0 ≤ n → n < 16 ^ i → R (puT (hexA (T.drop i) n) false) [] → internal_strconv_ParseUint_L0 R (bytesOf T) n i := by
  have p6 : (16 : Int) ^ 6 = 16777216 := by decide
  have hp : ∀ i : Nat, i ≤ 6 → (16 : Int) ^ i ≤ 16777216 := fun i hi => by rw [← p6]; exact pow_mono (by omega) hi
  intro m
  induction m with
  | zero =>
    intro i n hi hle h0 h1 hR
    refine internal_strconv_ParseUint_l0 ?_
    unfold internal_strconv_ParseUint_R0
    rw [map_bs, bs_of hT, ints_len]
    refine ifB_f (by simp; omega) ?_
    rw [List.drop_eq_nil_of_le (by omega)] at hR
    exact hR
  | succ m ih =>
    intro i n hi hle h0 h1 hR
    refine internal_strconv_ParseUint_l0 ?_
    unfold internal_strconv_ParseUint_R0
    have hlt : i < T.length := by omega
    have hb := hT.rd (by omega) i
    have hpi := hp i (by omega)
    have hp1 : (16 : Int) ^ (i + 1) = 16 ^ i * 16 := Int.pow_succ 16 i
    have hd0 : 0 ≤ hexD (rd T i) := by
      unfold hexOk at hok
      rw [List.all_eq_true] at hok
      have := hok _ (List.getElem_mem hlt)
      rw [← rd_at T i hlt] at this
      simpa using this
    have hd1 := hexD_lt (rd T i)
    have hlow := low_tab ⟨(rd T i).toNat, by omega⟩
    simp only at hlow
    rw [show (((rd T i).toNat : Nat) : Int) = rd T i by omega] at hlow
    have h95 : rd T i ≠ 95 := fun e => by rw [e] at hd0; exact absurd hd0 (by decide)
    rw [drop_rd' T i hlt] at hR
    unfold hexA at hR
    have next : internal_strconv_ParseUint_L0 R (bytesOf T) (n * 16 + hexD (rd T i)) (IntKind.wrap .i64 ((i : Int) + 1)) := by
      rw [w64 (by omega) (by omega)]
      have := ih (i + 1) (n * 16 + hexD (rd T i)) (by omega) (by omega) (by omega) (by rw [hp1]; omega) hR
      simpa using this
    have e16 : IntKind.wrap .u8 16 = 16 := rfl
    have e16' : IntKind.wrap .u64 16 = 16 := rfl
    have em : IntKind.wrap .u64 ((IntKind.wrap .u64 (1 * (2 ^ (min (Int.toNat (IntKind.wrap .u64 32)) 64)))) - 1) = 4294967295 := by decide +kernel
    rw [map_bs, bs_of hT, ints_len, Int.toNat_natCast]
    refine ifB_t (by simp; omega) ⟨by omega, rd T i, by simp [ints, some_rd hlt], ifB_f (by simpa using h95) ?_⟩
    rw [e16, e16', em, wu64 (n := n * 16) (by omega) (by omega)]
    have letters : ¬ (48 ≤ rd T i ∧ rd T i ≤ 57) → lowV (rd T i) = hexD (rd T i) + 87 ∧ 10 ≤ hexD (rd T i) := by
      intro h
      refine ⟨hlow hd0 h, ?_⟩
      unfold hexD at hd0 ⊢
      rw [if_neg h] at hd0 ⊢
      revert hd0
      repeat' split
      all_goals omega
    by_cases hdig : 48 ≤ rd T i ∧ rd T i ≤ 57
    · have hD : hexD (rd T i) = rd T i - 48 := by unfold hexD; rw [if_pos hdig]
      rw [hD] at next
      refine ifB_t (by simp; omega) (ifB_t (by simp; omega) ?_)
      rw [wu8 (n := rd T i - 48) (by omega) (by omega), wu64 (n := rd T i - 48) (by omega) (by omega), wu64 (n := n * 16 + (rd T i - 48)) (by omega) (by omega)]
      exact ifB_f (by simp; omega) (ifB_f (by simp; omega) (ifB_f (by simp; omega) (ifB_f (by simp; omega) next)))
    · obtain ⟨hl, h10⟩ := letters hdig
      have hlo := lower_ok (rd T i)
      rw [hl] at hlo
      by_cases h48 : 48 ≤ rd T i
      · refine ifB_t (by simpa using h48) (ifB_f (by simp; omega) ⟨_, hlo, ?_⟩)
        refine ifB_t (by simp; omega) ⟨_, hlo, ifB_t (by simp; omega) ⟨_, hlo, ?_⟩⟩
        rw [wu8 (n := hexD (rd T i) + 87 - 97) (by omega) (by omega), wu8 (n := hexD (rd T i) + 87 - 97 + 10) (by omega) (by omega), wu64 (n := hexD (rd T i) + 87 - 97 + 10) (by omega) (by omega), wu64 (n := n * 16 + (hexD (rd T i) + 87 - 97 + 10)) (by omega) (by omega)]
        rw [show n * 16 + (hexD (rd T i) + 87 - 97 + 10) = n * 16 + hexD (rd T i) by omega]
        exact ifB_f (by simp; omega) (ifB_f (by simp; omega) (ifB_f (by simp; omega) (ifB_f (by simp; omega) next)))
      · refine ifB_f (by simp; omega) ⟨_, hlo, ?_⟩
        refine ifB_t (by simp; omega) ⟨_, hlo, ifB_t (by simp; omega) ⟨_, hlo, ?_⟩⟩
        rw [wu8 (n := hexD (rd T i) + 87 - 97) (by omega) (by omega), wu8 (n := hexD (rd T i) + 87 - 97 + 10) (by omega) (by omega), wu64 (n := hexD (rd T i) + 87 - 97 + 10) (by omega) (by omega), wu64 (n := n * 16 + (hexD (rd T i) + 87 - 97 + 10)) (by omega) (by omega)]
        rw [show n * 16 + (hexD (rd T i) + 87 - 97 + 10) = n * 16 + hexD (rd T i) by omega]
        exact ifB_f (by simp; omega) (ifB_f (by simp; omega) (ifB_f (by simp; omega) (ifB_f (by simp; omega) next)))
end Go.Proofs.YtejefchehdifhaaDoor.Ev
end
section
set_option linter.unusedVariables false
set_option linter.unusedSimpArgs false
namespace Go.Proofs.YtejefchehdifhaaDoor.Ev
open Go Go.RowKit
theorem chs_more : ∀ (f at_ : Nat) (l acc : List Int), (chs f l at_ acc).2 = -1 → l.length - at_ < f → acc.length ≤ (chs f l at_ acc).1.length ∧ (at_ < l.length → acc.length < (chs f l at_ acc).1.length)
  | 0, at_, l, acc, h, hf => by omega
  | f + 1, at_, l, acc, h, hf => by
    unfold chs at h ⊢
    split
    · exact ⟨Nat.le_refl _, fun h => by omega⟩
    · rename_i h1
      rw [if_neg h1] at h
      split
      · rename_i h2
        rw [if_pos h2] at h
        simp only at h
        omega
      · rename_i h2
        rw [if_neg h2] at h
        have hf2 : l.length - (at_ + (ch1 (l.drop at_)).2.toNat) < f ∨ (ch1 (l.drop at_)).2.toNat = 0 := by omega
        rcases hf2 with hf2 | hf2
        · have := (chs_more f _ l _ h hf2).1
          rw [List.length_append, List.length_singleton] at this
          exact ⟨by omega, fun _ => by omega⟩
        · exfalso
          have h3 : (ch1 (l.drop at_)).2 < 0 := by omega
          revert h3
          unfold ch1 chN
          repeat' split
          all_goals (simp only; omega)
def oneB (T : List Int) : Bool := decide (T ≠ [] ∧ (ch1 T).2 = (T.length : Int))
theorem chars_one {T : List Int} (hT : Bytes T) : ((chars T).2 = -1 ∧ (chars T).1.length = 1) ↔ oneB T = true := by
  unfold oneB
  rw [decide_eq_true_eq]
  cases T with
  | nil => simp [chars, chs]
  | cons x r =>
    have hb := ch1_bounds hT (by simp)
    have hd : (x :: r).drop 0 = x :: r := rfl
    unfold chars
    rw [show (x :: r).length + 1 = (r.length + 1) + 1 from rfl]
    unfold chs
    rw [if_neg (by simp), hd]
    by_cases h0 : (ch1 (x :: r)).2 = 0
    · rw [if_pos h0]
      simp only [List.length_cons] at hb ⊢
      constructor
      · rintro ⟨h, _⟩; simp at h
      · rintro ⟨_, h⟩; omega
    · rw [if_neg h0]
      constructor
      · rintro ⟨h1, h2⟩
        refine ⟨by simp, ?_⟩
        by_cases hlt : 0 + (ch1 (x :: r)).2.toNat < (x :: r).length
        · have := (chs_more (r.length + 1) _ _ _ h1 (by simp at hb ⊢; omega)).2 hlt
          simp only [List.length_append, List.length_nil, List.length_singleton] at this
          omega
        · omega
      · rintro ⟨_, h⟩
        unfold chs
        rw [if_pos (by omega)]
        simp
theorem chars_val {T : List Int} (h : oneB T = true) : rd (chars T).1 0 = (ch1 T).1 := by
  unfold oneB at h
  rw [decide_eq_true_eq] at h
  cases T with
  | nil => simp at h
  | cons x r =>
    have hd : (x :: r).drop 0 = x :: r := rfl
    unfold chars
    rw [show (x :: r).length + 1 = (r.length + 1) + 1 from rfl]
    unfold chs
    rw [if_neg (by simp), hd, if_neg (by have := h.2; simp at this; omega)]
    unfold chs
    rw [if_pos (by omega)]
    rfl
theorem namedV_one {T : List Int} (hT : Bytes T) (h : oneB T = true) : rd (chars T).1 0 = (ch1 T).1 ∧ 0 ≤ (ch1 T).1 := by
  refine ⟨chars_val h, ?_⟩
  unfold oneB at h
  rw [decide_eq_true_eq] at h
  exact (ch1_bounds hT h.1).1
abbrev namT (v : Int) : TV := .tup [(false, [.fz (.int .i64 (if 0 ≤ v then v else 0))]), (false, [.fz (.bool (decide (0 ≤ v)))])]
theorem namT_ok {v : Int} (h : 0 ≤ v) : namT v = .tup [(false, [.fz (.int .i64 v)]), (false, [.fz (.bool true)])] := by unfold namT; rw [if_pos h, decide_eq_true h]
theorem namT_bad {v : Int} (h : v < 0) : namT v = .tup [(false, [.fz (.int .i64 0)]), (false, [.fz (.bool false)])] := by unfold namT; rw [if_neg (by omega), decide_eq_false (by omega)]
theorem nm_l {T : List Int} (hT : Bytes T) (a : Array UInt8) (l : List Int) (hl : Bytes l) (h : ByteArray.mk a = bytesOf l) : (ByteArray.toList (ByteArray.mk a) == ByteArray.toList (bytesOf T)) = decide (l = T) := by
  rw [h]; exact eq_bytes hl hT
theorem nm0 : Bytes [115, 112, 97, 99, 101] ∧ ByteArray.mk #[115, 112, 97, 99, 101] = bytesOf [115, 112, 97, 99, 101] := ⟨by intro x hx; simp at hx; omega, by decide +kernel⟩
theorem nm1 : Bytes [110, 101, 119, 108, 105, 110, 101] ∧ ByteArray.mk #[110, 101, 119, 108, 105, 110, 101] = bytesOf [110, 101, 119, 108, 105, 110, 101] := ⟨by intro x hx; simp at hx; omega, by decide +kernel⟩
theorem nm2 : Bytes [116, 97, 98] ∧ ByteArray.mk #[116, 97, 98] = bytesOf [116, 97, 98] := ⟨by intro x hx; simp at hx; omega, by decide +kernel⟩
theorem nm3 : Bytes [114, 101, 116, 117, 114, 110] ∧ ByteArray.mk #[114, 101, 116, 117, 114, 110] = bytesOf [114, 101, 116, 117, 114, 110] := ⟨by intro x hx; simp at hx; omega, by decide +kernel⟩
theorem nm4 : Bytes [110, 117, 108, 108] ∧ ByteArray.mk #[110, 117, 108, 108] = bytesOf [110, 117, 108, 108] := ⟨by intro x hx; simp at hx; omega, by decide +kernel⟩
theorem nm5 : Bytes [100, 101, 108, 101, 116, 101] ∧ ByteArray.mk #[100, 101, 108, 101, 116, 101] = bytesOf [100, 101, 108, 101, 116, 101] := ⟨by intro x hx; simp at hx; omega, by decide +kernel⟩
theorem slPrefix_ok (T : List Int) (hT : Bytes T) (hlen : T.length ≤ 16777216) : Fn Tryd.prog 44 [.one (.fz (.str (bytesOf T))), .one (.fz (.str (ByteArray.mk #[120])))] [] (fzB (decide (T.head? = some 120))) [] := by
  refine internal_stringslite_HasPrefix_fn _ _ ?_
  obtain ⟨R, hR, hRe⟩ := exR (fzB (decide (T.head? = some 120))); rw [hRe]; clear hRe
  unfold internal_stringslite_HasPrefix_H
  have e1 : ((ByteArray.size (ByteArray.mk #[120]) : Nat) : Int) = 1 := rfl
  rw [e1, size_of, dec_t, dec_f, show Int.toNat 1 = 1 from rfl]
  refine ⟨fun h => ⟨⟨by omega, by omega⟩, ?_⟩, fun h => ?_⟩
  · have e2 : ByteArray.mk #[120] = bytesOf [120] := by decide +kernel
    have hb : Bytes (((T.drop 0).take (1 - 0))) := fun x hx => hT x (List.mem_of_mem_drop (List.mem_of_mem_take hx))
    rw [extract_of, e2, eq_bytes hb (by intro x hx; simp at hx; omega)]
    cases T with
    | nil => simp at h
    | cons x r => simpa using hR
  · cases T with
    | nil => simpa using hR
    | cons x r => simp at h; omega
abbrev cutR (T : List Int) : TV := .tup [(false, [.fz (.str (bytesOf (if T.head? = some 120 then T.drop 1 else T)))]), (false, [.fz (.bool (decide (T.head? = some 120)))])]
theorem slCut_ok (T : List Int) (hT : Bytes T) (hlen : T.length ≤ 16777216) : Fn Tryd.prog 87 [.one (.fz (.str (bytesOf T))), .one (.fz (.str (ByteArray.mk #[120])))] [] (cutR T) [] := by
  refine internal_stringslite_CutPrefix_fn _ _ ?_
  obtain ⟨R, hR, hRe⟩ := exR (cutR T); rw [hRe]; clear hRe
  unfold internal_stringslite_CutPrefix_H
  refine ⟨_, slPrefix_ok T hT hlen, ?_⟩
  have e1 : ((ByteArray.size (ByteArray.mk #[120]) : Nat) : Int) = 1 := rfl
  unfold cutR at hR
  rw [not_t, not_f, dec_f, dec_t, e1, size_of, show Int.toNat 1 = 1 from rfl]
  refine ⟨fun h => ?_, fun h => ?_⟩
  · rw [if_neg h, decide_eq_false h] at hR; exact hR
  · rw [if_pos h, decide_eq_true h] at hR
    have hl : 1 ≤ T.length := by cases T with
      | nil => simp at h
      | cons x r => simp
    refine ⟨⟨by omega, by omega⟩, ?_⟩
    rw [extract_of, List.take_of_length_le (by simp)]
    exact hR
theorem cutPrefix_ok (T : List Int) (hT : Bytes T) (hlen : T.length ≤ 16777216) : Fn Tryd.prog 77 [.one (.fz (.str (bytesOf T))), .one (.fz (.str (ByteArray.mk #[120])))] [] (cutR T) [] := by
  refine strings_CutPrefix_fn _ _ ?_
  unfold strings_CutPrefix_H
  exact ⟨_, _, slCut_ok T hT hlen, rfl, rfl⟩
theorem pHexI_ok (T : List Int) (hT : Bytes T) (hlen : T.length ≤ 6) (hne : T ≠ []) (hok : hexOk T = true) : Fn Tryd.prog 82 [.one (.fz (.str (bytesOf T))), fzI .i64 16, fzI .i64 32] [] (puT (hexA T 0) false) [] := by
  refine internal_strconv_ParseUint_fn _ ?_
  unfold internal_strconv_ParseUint_H
  have e : (ByteArray.toList (bytesOf T) == ByteArray.toList (ByteArray.mk #[])) = false := by
    have := eq_bytes (m := []) hT Bytes.nil
    rw [show (ByteArray.mk #[]) = bytesOf [] from rfl, this]
    simpa using hne
  refine ifB_f e ⟨by decide, ?_⟩
  exact pHex_loop T hT hlen hok _ _ 0 0 rfl (Nat.zero_le _) (by omega) (by simp) ⟨rfl, rfl⟩
theorem pHex_ok (T : List Int) (hT : Bytes T) (hlen : T.length ≤ 6) (hne : T ≠ []) (hok : hexOk T = true) : Fn Tryd.prog 78 [.one (.fz (.str (bytesOf T))), fzI .i64 16, fzI .i64 32] [] (puT (hexA T 0) false) [] := by
  refine strconv_ParseUint_fn _ ?_
  unfold strconv_ParseUint_H
  exact ⟨_, _, pHexI_ok T hT hlen hne hok, ifB_f rfl ⟨rfl, rfl⟩⟩
theorem DecodeInString_fn (T : List Int) : Fn Tryd.prog 66 [.one (.fz (.str (bytesOf T)))] [] (.tup [(false, [.fz (.int .i32 (deR T))]), (false, [.fz (.int .i64 (deN T))])]) [] := by
  intro ext w locs vals H hsz hrep
  obtain ⟨v, hv, hr⟩ := hrep 0 _ rfl
  have e : vals = #[v] := by
    apply Array.ext
    · simpa using hsz
    · intro i h1 h2
      have : i = 0 := by simp at h2; omega
      subst this
      rw [Array.getElem?_eq_getElem h1] at hv
      simpa using hv
  subst e
  replace hr : RF w (Bar ext locs []) (.str (bytesOf T)) v := hr
  cases hr
  refine (Tryd.utf8_DecodeRuneInString (bytesOf T) w (utf_tabs H.glob)).mono ?_
  rintro e w' ⟨rfl, hb⟩
  refine ⟨.tuple #[.int .i32 (deR T), .int .i64 (deN T)], locs, rfl, H.below hb, #[.int .i32 (deR T), .int .i64 (deN T)], rfl, rfl, fun i b' cs hi => ?_⟩
  match i with
  | 0 =>
    cases hi
    refine ⟨.int .i32 (deR T), rfl, [.int .i32 (deR T)], rfl, rfl, fun _ => rfl, fun j x hj => ?_⟩
    cases j with
    | zero => cases hj; exact ⟨_, rfl, .int _ _⟩
    | succ j => simp at hj
  | 1 =>
    cases hi
    refine ⟨.int .i64 (deN T), rfl, [.int .i64 (deN T)], rfl, rfl, fun _ => rfl, fun j x hj => ?_⟩
    cases j with
    | zero => cases hj; exact ⟨_, rfl, .int _ _⟩
    | succ j => simp at hj
  | i + 2 => simp at hi
theorem uNamed_ok (T : List Int) (hT : Bytes T) (hlen : T.length ≤ 16777216) : Fn Tryd.prog 64 [.one (.fz (.str (bytesOf T)))] [] (namT (namedV T)) [] := by
  refine utf_Named_fn _ ?_
  obtain ⟨R, hR, hRe⟩ := exR (namT (namedV T)); rw [hRe]; clear hRe
  unfold namedV at hR
  unfold utf_Named_H
  refine utf_Named_l0 ?_
  unfold utf_Named_R0
  refine ⟨fun _ => ⟨by omega, 32, ByteArray.mk #[115, 112, 97, 99, 101], rfl, ?_, ?_⟩, fun h => absurd h (by decide)⟩ <;> rw [nm_l hT _ _ nm0.1 nm0.2]
  · exact fun h => (by rw [if_pos (of_decide_eq_true h).symm, namT_ok (by omega)] at hR; exact hR)
  intro n0
  replace n0 : ¬ T = [115, 112, 97, 99, 101] := fun h => of_decide_eq_false n0 h.symm
  rw [if_neg n0] at hR
  rw [w64 (by omega) (by omega)]
  refine utf_Named_l0 ?_
  unfold utf_Named_R0
  refine ⟨fun _ => ⟨by omega, 10, ByteArray.mk #[110, 101, 119, 108, 105, 110, 101], rfl, ?_, ?_⟩, fun h => absurd h (by decide)⟩ <;> rw [nm_l hT _ _ nm1.1 nm1.2]
  · exact fun h => (by rw [if_pos (of_decide_eq_true h).symm, namT_ok (by omega)] at hR; exact hR)
  intro n1
  replace n1 : ¬ T = [110, 101, 119, 108, 105, 110, 101] := fun h => of_decide_eq_false n1 h.symm
  rw [if_neg n1] at hR
  rw [w64 (by omega) (by omega)]
  refine utf_Named_l0 ?_
  unfold utf_Named_R0
  refine ⟨fun _ => ⟨by omega, 9, ByteArray.mk #[116, 97, 98], rfl, ?_, ?_⟩, fun h => absurd h (by decide)⟩ <;> rw [nm_l hT _ _ nm2.1 nm2.2]
  · exact fun h => (by rw [if_pos (of_decide_eq_true h).symm, namT_ok (by omega)] at hR; exact hR)
  intro n2
  replace n2 : ¬ T = [116, 97, 98] := fun h => of_decide_eq_false n2 h.symm
  rw [if_neg n2] at hR
  rw [w64 (by omega) (by omega)]
  refine utf_Named_l0 ?_
  unfold utf_Named_R0
  refine ⟨fun _ => ⟨by omega, 13, ByteArray.mk #[114, 101, 116, 117, 114, 110], rfl, ?_, ?_⟩, fun h => absurd h (by decide)⟩ <;> rw [nm_l hT _ _ nm3.1 nm3.2]
  · exact fun h => (by rw [if_pos (of_decide_eq_true h).symm, namT_ok (by omega)] at hR; exact hR)
  intro n3
  replace n3 : ¬ T = [114, 101, 116, 117, 114, 110] := fun h => of_decide_eq_false n3 h.symm
  rw [if_neg n3] at hR
  rw [w64 (by omega) (by omega)]
  refine utf_Named_l0 ?_
  unfold utf_Named_R0
  refine ⟨fun _ => ⟨by omega, 0, ByteArray.mk #[110, 117, 108, 108], rfl, ?_, ?_⟩, fun h => absurd h (by decide)⟩ <;> rw [nm_l hT _ _ nm4.1 nm4.2]
  · exact fun h => (by rw [if_pos (of_decide_eq_true h).symm, namT_ok (by omega)] at hR; exact hR)
  intro n4
  replace n4 : ¬ T = [110, 117, 108, 108] := fun h => of_decide_eq_false n4 h.symm
  rw [if_neg n4] at hR
  rw [w64 (by omega) (by omega)]
  refine utf_Named_l0 ?_
  unfold utf_Named_R0
  refine ⟨fun _ => ⟨by omega, 127, ByteArray.mk #[100, 101, 108, 101, 116, 101], rfl, ?_, ?_⟩, fun h => absurd h (by decide)⟩ <;> rw [nm_l hT _ _ nm5.1 nm5.2]
  · exact fun h => (by rw [if_pos (of_decide_eq_true h).symm, namT_ok (by omega)] at hR; exact hR)
  intro n5
  replace n5 : ¬ T = [100, 101, 108, 101, 116, 101] := fun h => of_decide_eq_false n5 h.symm
  rw [if_neg n5] at hR
  rw [w64 (by omega) (by omega)]
  refine utf_Named_l0 ?_
  unfold utf_Named_R0
  refine ⟨fun h => absurd h (by decide), fun _ => ⟨_, _, DecodeInString_fn T, ?_⟩⟩
  rw [size_of]
  by_cases h1 : oneB T = true
  · have hc := (chars_one hT).2 h1
    obtain ⟨q1, q2⟩ := namedV_one hT h1
    rw [if_pos hc, q1, namT_ok q2] at hR
    have h1' := h1
    unfold oneB at h1'
    rw [decide_eq_true_eq] at h1'
    have hl : T.length ≠ 0 := fun e => h1'.1 (List.length_eq_zero_iff.1 e)
    rcases de_ch1 hT h1'.1 with ⟨c1, c2, c3⟩ | ⟨c1, c2⟩
    · rw [c1] at h1'; simp at h1'; omega
    · have g1 : (ch1 T).1 = deR T := by rw [c1]
      have g2 : (ch1 T).2 = deN T := by rw [c1]
      have hb := ch1_bounds hT h1'.1
      rw [g1] at hR q2 hb
      simp only [beq_t, beq_f, dec_t, dec_f, bne_t, bne_f, w64 (n := deR T) (by omega) (by omega)]
      refine ⟨fun _ => ⟨fun _ => ⟨fun _ => hR, fun h => ⟨fun _ => hR, fun h => by omega⟩⟩, fun h => by omega⟩, fun h => by omega⟩
  · have hc : ¬ ((chars T).2 = -1 ∧ (chars T).1.length = 1) := fun h => h1 ((chars_one hT).1 h)
    rw [if_neg hc] at hR
    have ht := hR
    have hx1 : T ≠ [120] := fun e => h1 (by rw [e]; decide +kernel)
    have head_rd' : (2 ≤ T.length ∧ rd T 0 = 120) → T.head? = some 120 := fun hx => by
      cases T with
      | nil => simp at hx
      | cons x r => simpa [rd] using hx.2
    have tailG : ∀ G : Prop, (R (namT (if 2 ≤ T.length ∧ rd T 0 = 120 then hexV (T.drop 1) else -1)) [] → G) → G := fun G h => h ht
    simp only [beq_t, beq_f, dec_t, dec_f, bne_t, bne_f]
    have no : ¬ (deN T = (T.length : Int) ∧ 0 < deN T ∧ (deR T ≠ 65533 ∨ 1 < deN T)) := by
      rintro ⟨a1, a2, a3⟩
      have hne : T ≠ [] := fun e => by rw [e] at a1 a2; simp at a1; omega
      rcases de_ch1 hT hne with ⟨c1, c2, c3⟩ | ⟨c1, c2⟩
      · omega
      · refine h1 ?_
        unfold oneB
        rw [decide_eq_true_eq, c1]
        exact ⟨hne, a1⟩
    refine ⟨fun a1 => ⟨fun a2 => ⟨fun a3 => absurd ⟨a1, a2, .inl a3⟩ no, fun a3 => ⟨fun a4 => absurd ⟨a1, a2, .inr a4⟩ no, fun a4 => ?_⟩⟩, fun a2 => ?_⟩, fun a1 => ?_⟩
    all_goals
      refine ⟨_, _, cutPrefix_ok T hT hlen, ?_⟩
      simp only [not_t, not_f, dec_t, dec_f]
      refine ⟨fun hp => ?_, fun hp => ?_⟩
      · rw [if_neg (fun hx => hp (head_rd' hx)), namT_bad (by omega)] at ht; exact ht
      · have hl : T ≠ [] := fun e => by rw [e] at hp; simp at hp
        have h120 : rd T 0 = 120 := by cases T with
          | nil => simp at hp
          | cons x r => simpa [rd] using hp
        rw [if_pos hp]
        simp only [size_of]
        have hl2 : 2 ≤ T.length := by
          cases T with
          | nil => simp at hl
          | cons x r => cases r with
            | nil => exact absurd (by simpa using hp) hx1
            | cons y r => simp
        rw [if_pos ⟨hl2, h120⟩] at ht
        unfold hexV at ht
        rw [List.length_drop] at ht ⊢
        refine ⟨fun h6 => ?_, fun h6 => ?_⟩
        · rw [if_neg (by omega), namT_bad (by omega)] at ht; exact ht
        · rw [if_pos (by omega), hexR_eq] at ht
          refine ⟨_, Trim_fn (bytesOf (T.drop 1)) _ (by rw [size_of]; simp; omega) (by decide) (by decide +kernel), ?_⟩
          rw [trim_hex (drop_bytes hT 1)]
          refine ⟨fun hx => ?_, fun hx => ?_⟩
          · rw [if_neg (by rw [hx]; simp), namT_bad (by omega)] at ht; exact ht
          · rw [if_pos hx] at ht
            have hb := hexA_bound (T.drop 1) 0 1 hx (by omega) (by omega)
            have p6 : (1 : Int) * 16 ^ (T.drop 1).length ≤ 16777216 := by
              have : (16 : Int) ^ 6 = 16777216 := by decide
              rw [Int.one_mul, ← this]
              exact pow_mono (by omega) (by simp; omega)
            refine ⟨_, _, pHex_ok (T.drop 1) (drop_bytes hT 1) (by simp; omega) (fun e => by have := congrArg List.length e; simp at this; omega) hx, ?_⟩
            refine ⟨fun h => absurd h (by decide), fun _ => ⟨_, uScalar_ok _, ?_⟩⟩
            rw [w64 (by omega) (by omega)]
            refine ⟨fun hs => ?_, fun hs => ?_⟩
            · rw [if_neg (by rw [hs]; simp), namT_bad (by omega)] at ht; exact ht
            · rw [if_pos hs, namT_ok (by omega)] at ht; exact ht
end Go.Proofs.YtejefchehdifhaaDoor.Ev
end
section
set_option linter.unusedVariables false
set_option linter.unusedSimpArgs false
namespace Go.Proofs.YtejefchehdifhaaDoor.Ev
open Go
abbrev scM (t : List Int) (p : Nat) : List Ob := [.g 59 [.fz (.sl 1 (ints .i64 t)), .fz (.int .i64 ((p : Nat) : Int))]]
abbrev scP : TV := .one (.ptr 0 0 0 59)
theorem pkL_lt {l : List Int} {i : Nat} (h : i < l.length) : pkL l i = rd l i := if_pos h
theorem pkL_ge {l : List Int} {i : Nat} (h : l.length ≤ i) : pkL l i = -1 := if_neg (by omega)
theorem sLeft_ok (t : List Int) (p n : Nat) (hp : p ≤ 1000000000) (hn : n ≤ 1000000000) : Fn Tryd.prog 22 [scP, fzI .i64 ((n : Nat) : Int)] (scM t p) (fzB (decide (p + n ≤ t.length))) (scM t p) := by
  refine token_scanner_leftO_fn _ _ _ ?_
  obtain ⟨R, hR, hRe⟩ := exW (fzB (decide (p + n ≤ t.length))) (scM t p); rw [hRe]; clear hRe
  unfold token_scanner_leftO_H
  rw [w64 (by omega) (by omega), ints_len]
  have : decide ((p : Int) + (n : Int) ≤ (t.length : Int)) = decide (p + n ≤ t.length) := by rw [decide_eq_decide]; omega
  rw [this]
  exact hR _ (Wk.refl _)
theorem sPeek_ok (t : List Int) (p n : Nat) (hp : p ≤ 1000000000) (hn : n ≤ 1000000) : Fn Tryd.prog 34 [scP, fzI .i64 ((n : Nat) : Int)] (scM t p) (fzI .i64 (pkL t (p + n))) (scM t p) := by
  refine token_scanner_peekO_fn _ _ _ ?_
  obtain ⟨R, hR, hRe⟩ := exW (fzI .i64 (pkL t (p + n))) (scM t p); rw [hRe]; clear hRe
  unfold token_scanner_peekO_H
  have hl := sLeft_ok t p (n + 1) hp (by omega)
  rw [show ((n + 1 : Nat) : Int) = (n : Int) + 1 by omega] at hl
  rw [w64 (n := (n : Int) + 1) (by omega) (by omega)]
  refine ⟨_, _, _, hl, ?_⟩
  simp only [not_t, not_f, dec_t, dec_f, decide_eq_true_eq, decide_eq_false_iff_not]
  refine ⟨fun h => ?_, fun h => ?_⟩
  · rw [pkL_ge (by omega)] at hR; exact hR _ (Wk.refl _)
  · rw [pkL_lt (by omega)] at hR
    rw [w64 (by omega) (by omega)]
    exact ⟨by omega, rd t (p + n), by rw [show Int.toNat ((p : Int) + (n : Int)) = p + n by omega]; simp [ints, some_rd (show p + n < t.length by omega)], hR _ (Wk.refl _)⟩
theorem sBlanks_loop (t : List Int) (hlen : t.length ≤ 100000000) (R : TV → List Ob → Prop) : ∀ (m q : Nat), t.length - q = m → q ≤ t.length →
    ((∀ h', Wk h' (scM t (q + blC false (t.drop q))) → R (.tup []) h') → token_scanner_blanksO_L0 R (ints .i64 t) q) ∧
    ((∀ h', Wk h' (scM t (q + blC true (t.drop q))) → R (.tup []) h') → token_scanner_blanksO_L1 R (ints .i64 t) q) := by
  intro m
  induction m with
  | zero =>
    intro q hq hle
    have hd : t.drop q = [] := List.drop_eq_nil_of_le (by omega)
    have hp := sPeek_ok t q 0 (by omega) (by omega)
    rw [pkL_ge (by omega)] at hp
    have h0 : (∀ h', Wk h' (scM t q) → R (.tup []) h') → token_scanner_blanksO_L0 R (ints .i64 t) q := fun hR => by
      refine token_scanner_blanksO_l0 ?_
      unfold token_scanner_blanksO_R0
      refine ⟨_, _, _, hp, fun h => absurd h (by decide), fun _ => ⟨fun h => absurd h (by decide), fun _ => hR _ (Wk.refl _)⟩⟩
    refine ⟨fun hR => ?_, fun hR => ?_⟩
    · rw [hd] at hR; exact h0 hR
    · rw [hd] at hR
      refine token_scanner_blanksO_l1 ?_
      unfold token_scanner_blanksO_R1
      refine ⟨_, _, _, sLeft_ok t q 1 (by omega) (by omega), fun h => ?_, fun _ => h0 hR⟩
      simp at h; omega
  | succ m ih =>
    intro q hq hle
    have hlt : q < t.length := by omega
    have hp := sPeek_ok t q 0 (by omega) (by omega)
    rw [Nat.add_zero, pkL_lt hlt] at hp
    have hl := sLeft_ok t q 1 (by omega) (by omega)
    rw [decide_eq_true (by omega)] at hl
    have hd := drop_rd' t q hlt
    obtain ⟨ih0, ih1⟩ := ih (q + 1) (by omega) (by omega)
    have e : IntKind.wrap .i64 ((q : Int) + 1) = ((q + 1 : Nat) : Int) := w64 (by omega) (by omega)
    have h0 : (∀ h', Wk h' (scM t (q + blC false (t.drop q))) → R (.tup []) h') → token_scanner_blanksO_L0 R (ints .i64 t) q := fun hR => by
      rw [hd] at hR
      unfold blC at hR
      refine token_scanner_blanksO_l0 ?_
      unfold token_scanner_blanksO_R0
      refine ⟨_, _, _, hp, ?_⟩
      simp only [dec_t, dec_f, beq_t, beq_f, e]
      have semi : rd t q = 59 → token_scanner_blanksO_L1 R (ints .i64 t) q := fun h => by
        rw [if_neg (by rw [h]; decide), if_pos h] at hR
        refine token_scanner_blanksO_l1 ?_
        unfold token_scanner_blanksO_R1
        refine ⟨_, _, _, hl, fun _ => ⟨_, _, _, hp, ?_⟩, fun h => absurd h (by decide)⟩
        simp only [bne_t, bne_f, e]
        refine ⟨fun _ => ih1 ?_, fun h => by omega⟩
        rw [show q + (blC true (t.drop (q + 1)) + 1) = q + 1 + blC true (t.drop (q + 1)) by omega] at hR
        exact hR
      have out : blankB (rd t q) = false → rd t q ≠ 59 → R (.tup []) (scM t q) := fun h1 h2 => by
        rw [if_neg (by rw [h1]; simp), if_neg h2] at hR
        exact hR _ (Wk.refl _)
      refine ⟨fun _ => ⟨_, uBlank_ok _, fun hb => ?_, fun hb => ⟨semi, out hb⟩⟩, fun h => ⟨semi, out ?_⟩⟩
      · rw [if_pos hb, show q + (blC false (t.drop (q + 1)) + 1) = q + 1 + blC false (t.drop (q + 1)) by omega] at hR
        exact ih0 hR
      · unfold blankB; rw [decide_eq_false_iff_not]; omega
    refine ⟨h0, fun hR => ?_⟩
    refine token_scanner_blanksO_l1 ?_
    unfold token_scanner_blanksO_R1
    refine ⟨_, _, _, hl, fun _ => ⟨_, _, _, hp, ?_⟩, fun h => absurd h (by decide)⟩
    simp only [bne_t, bne_f, e]
    refine ⟨fun h => ih1 ?_, fun h => h0 ?_⟩
    · rw [hd] at hR
      unfold blC at hR
      rw [if_neg h, show q + (blC true (t.drop (q + 1)) + 1) = q + 1 + blC true (t.drop (q + 1)) by omega] at hR
      exact hR
    · have hb : blC true (t.drop q) = blC false (t.drop q) := by
        rw [hd, h]; rfl
      rw [← hb]; exact hR
theorem sBlanks_ok (t : List Int) (hlen : t.length ≤ 100000000) (q : Nat) (hq : q ≤ t.length) : Fn Tryd.prog 21 [scP] (scM t q) (.tup []) (scM t (q + blC false (t.drop q))) := by
  refine token_scanner_blanksO_fn _ _ ?_
  obtain ⟨R, hR, hRe⟩ := exW (.tup []) (scM t (q + blC false (t.drop q))); rw [hRe]; clear hRe
  unfold token_scanner_blanksO_H
  exact (sBlanks_loop t hlen R _ q rfl hq).1 hR
theorem enc_map (l : List Int) : ints .u8 (enc l) = List.map (fun n => [FV.int .u8 n]) (enc l) := rfl
theorem sWhile_loop (t : List Int) (hs : Scals t) (hlen : t.length ≤ 100000000) (p : Nat) (R : TV → List Ob → Prop) : ∀ (m q : Nat), t.length - q = m → q ≤ t.length → p ≤ q →
    (∀ h', Wk h' (scM t (q + untilN (t.drop q))) → R (.one (.fz (.str (bytesOf (enc ((t.drop p).take (q + untilN (t.drop q) - p))))))) h') → token_scanner_whileO_L0 R p (ints .i64 t) q := by
  intro m
  have fin : ∀ q, q ≤ t.length → p ≤ q → ∀ G : TV → List Ob → Prop, (∀ h', Wk h' (scM t q) → G (.one (.fz (.str (bytesOf (enc ((t.drop p).take (q - p))))))) h') →
      ((0 : Int) ≤ (p : Int) ∧ (p : Int) ≤ (q : Int) ∧ (q : Int) ≤ (((ints .i64 t).length : Nat) : Int)) ∧ ∃ es10 : List (List FV), ∃ n18 : Int, (Fn Tryd.prog 62 [.one (.fz (.sl 1 (List.drop (Int.toNat p) (List.take (Int.toNat q) (ints .i64 t)))))] [] (.tup [(false, [.fz (.sl 1 es10)]), (false, [.fz (.int .i64 n18)])]) []) ∧ ∃ ns4 : List Int, (es10 = List.map (fun n19 => [FV.int .u8 n19]) ns4) ∧ G (.one (.fz (.str (bytesOf ns4)))) (scM t q) := by
    intro q h1 h2 G hG
    rw [ints_len, Int.toNat_natCast, Int.toNat_natCast, ints_take, ints_drop]
    have e1 : (t.take q).drop p = (t.drop p).take (q - p) := List.drop_take
    rw [e1]
    exact ⟨⟨by omega, by omega, by omega⟩, _, _, uEncode_ok _ ((hs.drop p).take _) (by simp; omega), _, enc_map _, hG _ (Wk.refl _)⟩
  induction m with
  | zero =>
    intro q hq hle hpq hR
    rw [List.drop_eq_nil_of_le (show t.length ≤ q by omega)] at hR
    refine token_scanner_whileO_l0 ?_
    unfold token_scanner_whileO_R0
    refine ⟨_, _, _, sLeft_ok t q 1 (by omega) (by omega), fun h => ?_, fun _ => fin q hle hpq R hR⟩
    simp at h; omega
  | succ m ih =>
    intro q hq hle hpq hR
    have hlt : q < t.length := by omega
    have hp := sPeek_ok t q 0 (by omega) (by omega)
    rw [Nat.add_zero, pkL_lt hlt] at hp
    have hl := sLeft_ok t q 1 (by omega) (by omega)
    rw [decide_eq_true (by omega)] at hl
    rw [drop_rd' t q hlt] at hR
    unfold untilN at hR
    have e : IntKind.wrap .i64 ((q : Int) + 1) = ((q + 1 : Nat) : Int) := w64 (by omega) (by omega)
    refine token_scanner_whileO_l0 ?_
    unfold token_scanner_whileO_R0
    refine ⟨_, _, _, hl, fun _ => ⟨_, _, _, hp, _, uEnds_ok _, ?_⟩, fun h => absurd h (by decide)⟩
    simp only [not_t, not_f]
    refine ⟨fun he => ?_, fun he => ?_⟩
    · rw [if_neg (by rw [he]; simp), show q + (untilN (t.drop (q + 1)) + 1) = q + 1 + untilN (t.drop (q + 1)) by omega] at hR
      rw [e]
      exact ih (q + 1) (by omega) (by omega) (by omega) hR
    · rw [if_pos he] at hR
      exact fin q hle hpq R hR
theorem sWhile_ok (t : List Int) (hs : Scals t) (hlen : t.length ≤ 100000000) (p k : Nat) (hq : p + k ≤ t.length) :
    Fn Tryd.prog 48 [scP, fzI .i64 ((k : Nat) : Int)] (scM t p) (.one (.fz (.str (bytesOf (enc ((t.drop p).take (k + untilN (t.drop (p + k))))))))) (scM t (p + k + untilN (t.drop (p + k)))) := by
  refine token_scanner_whileO_fn _ _ _ ?_
  obtain ⟨R, hR, hRe⟩ := exW (.one (.fz (.str (bytesOf (enc ((t.drop p).take (k + untilN (t.drop (p + k))))))))) (scM t (p + k + untilN (t.drop (p + k)))); rw [hRe]; clear hRe
  unfold token_scanner_whileO_H
  rw [w64 (by omega) (by omega)]
  have := sWhile_loop t hs hlen p R _ (p + k) rfl hq (by omega) (fun h' hw => by
    rw [show p + k + untilN (t.drop (p + k)) - p = k + untilN (t.drop (p + k)) by omega]
    exact hR h' hw)
  exact this
def hereB : List Int → List Int → Bool
  | [], _ => true
  | _ :: _, [] => false
  | w :: W, c :: T => decide (c = w) && hereB W T
theorem sHere_loop (t : List Int) (hs : Scals t) (hlen : t.length ≤ 100000000) (p : Nat) (hp : p ≤ t.length) (W : List Int) (hW : Bytes W) (hWl : W.length ≤ 1000) (R : TV → List Ob → Prop) : ∀ (m i : Nat), W.length - i = m → i ≤ W.length →
    (∀ h', Wk h' (scM t p) → R (fzB (hereB (W.drop i) (t.drop (p + i)))) h') → token_scanner_hereO_L0 R (bytesOf W) i (ints .i64 t) p := by
  intro m
  induction m with
  | zero =>
    intro i hi hle hR
    rw [List.drop_eq_nil_of_le (show W.length ≤ i by omega)] at hR
    refine token_scanner_hereO_l0 ?_
    unfold token_scanner_hereO_R0
    rw [size_of]
    refine ⟨fun h => absurd (of_decide_eq_true h) (by omega), fun _ => hR _ (Wk.refl _)⟩
  | succ m ih =>
    intro i hi hle hR
    have hlt : i < W.length := by omega
    obtain ⟨c, hc, hcv⟩ := byte_at hW hlt
    have hb := hW.rd (by omega) i
    rw [drop_rd' W i hlt] at hR
    refine token_scanner_hereO_l0 ?_
    unfold token_scanner_hereO_R0
    rw [size_of]
    refine ⟨fun _ => ⟨_, _, _, sPeek_ok t p i (by omega) (by omega), by omega, c, by rw [Int.toNat_natCast]; exact hc, ?_⟩, fun h => absurd (of_decide_eq_false h) (by omega)⟩
    rw [hcv, w64 (n := rd W i) (by omega) (by omega)]
    simp only [bne_t, bne_f]
    refine ⟨fun hne => ?_, fun heq => ?_⟩
    · have hx : hereB (rd W i :: W.drop (i + 1)) (t.drop (p + i)) = false := by
        by_cases hpt : p + i < t.length
        · rw [pkL_lt hpt] at hne
          rw [drop_rd' t (p + i) hpt]
          unfold hereB
          rw [decide_eq_false hne, Bool.false_and]
        · rw [List.drop_eq_nil_of_le (show t.length ≤ p + i by omega)]; rfl
      rw [hx] at hR
      exact hR _ (Wk.refl _)
    · have hpt : p + i < t.length := by
        unfold pkL at heq
        split at heq
        · assumption
        · omega
      rw [pkL_lt hpt] at heq
      rw [drop_rd' t (p + i) hpt] at hR
      unfold hereB at hR
      rw [decide_eq_true heq, Bool.true_and] at hR
      rw [w64 (by omega) (by omega)]
      exact ih (i + 1) (by omega) (by omega) hR
theorem sHere_ok (t : List Int) (hs : Scals t) (hlen : t.length ≤ 100000000) (p : Nat) (hp : p ≤ t.length) (W : List Int) (hW : Bytes W) (hWl : W.length ≤ 1000) :
    Fn Tryd.prog 36 [scP, .one (.fz (.str (bytesOf W)))] (scM t p) (fzB (hereB W (t.drop p))) (scM t p) := by
  refine token_scanner_hereO_fn _ _ _ ?_
  obtain ⟨R, hR, hRe⟩ := exW (fzB (hereB W (t.drop p))) (scM t p); rw [hRe]; clear hRe
  unfold token_scanner_hereO_H
  exact sHere_loop t hs hlen p hp W hW hWl R _ 0 rfl (Nat.zero_le _) hR
end Go.Proofs.YtejefchehdifhaaDoor.Ev
end
section
set_option linter.unusedVariables false
set_option linter.unusedSimpArgs false
namespace Go.Proofs.YtejefchehdifhaaDoor.Ev
open Go
theorem ch1_ascii {c : Int} {r : List Int} (h : c < 128) : ch1 (c :: r) = (c, 1) := by
  unfold ch1 chN
  have : rd (c :: r) 0 = c := rfl
  rw [this, if_pos h]
theorem namedV_x {B : List Int} (hB : Bytes B) (hne : B ≠ []) : namedV (120 :: B) = hexV B := by
  have hb : Bytes (120 :: B) := by
    intro x hx
    rcases List.mem_cons.1 hx with rfl | hx
    · omega
    · exact hB x hx
  have hl : B.length ≠ 0 := fun e => hne (List.length_eq_zero_iff.1 e)
  have no : ¬ ((chars (120 :: B)).2 = -1 ∧ (chars (120 :: B)).1.length = 1) := by
    rw [chars_one hb]
    unfold oneB
    rw [ch1_ascii (by omega)]
    simp
    omega
  unfold namedV
  rw [if_neg (by simp), if_neg (by simp), if_neg (by simp), if_neg (by simp), if_neg (by simp), if_neg (by simp), if_neg no, if_pos ⟨by simp; omega, rfl⟩]
  rfl
theorem hexV_nil : hexV [] = -1 := by unfold hexV; rw [if_neg (by simp)]
theorem x_of (X : List Int) : ByteArray.mk #[120] ++ bytesOf X = bytesOf (120 :: X) := by
  have e : ByteArray.mk #[120] = bytesOf [120] := by decide +kernel
  rw [e, app_of]; rfl
def hxV (r : List Int) : Int := if pkL r (semN 7 r) = 59 then hexV (enc (r.take (semN 7 r))) else -1
def hxQ (r : List Int) : Nat := if pkL r (semN 7 r) = 59 ∧ semN 7 r ≠ 0 then semN 7 r + 1 else semN 7 r
theorem enc_ne {l : List Int} (hs : Scals l) (h : l ≠ []) : enc l ≠ [] := by
  cases l with
  | nil => exact absurd rfl h
  | cons c r =>
    rw [enc_cons]
    have := utfB_len c
    intro e
    have e2 := congrArg List.length e
    rw [List.length_append] at e2
    simp at e2
    split at this <;> (try split at this) <;> (try split at this) <;> simp [e2.1] at this
theorem sHex_loop (t : List Int) (hs : Scals t) (hlen : t.length ≤ 100000000) (p : Nat) (hp : p ≤ t.length) (R : TV → List Ob → Prop)
    (hR : ∀ h', Wk h' (scM t (p + hxQ (t.drop p))) → R (fzI .i64 (hxV (t.drop p))) h') : ∀ (m j : Nat), t.length - (p + j) = m → j ≤ semN 7 (t.drop p) → token_scanner_hexO_L0 R p (ints .i64 t) ((p + j : Nat) : Int) := by
  obtain ⟨s1, s2⟩ := semN_spec 7 (t.drop p)
  obtain ⟨l1, l2⟩ := semN_le 7 (t.drop p)
  have hdl : (t.drop p).length = t.length - p := List.length_drop
  have hpk : pkL (t.drop p) (semN 7 (t.drop p)) = pkL t (p + semN 7 (t.drop p)) := pkL_drop _ _ _
  unfold hxV hxQ at hR
  rw [hpk] at hR
  generalize semN 7 (t.drop p) = s at *
  have hscal : Scals ((t.drop p).take s) := (hs.drop p).take s
  have hne : s ≠ 0 → p + s ≤ t.length → enc ((t.drop p).take s) ≠ [] := fun h0 h1 => enc_ne hscal (fun e => by have := congrArg List.length e; simp at this; omega)
  have hbx : Bytes (enc ((t.drop p).take s)) := enc_bytes hscal
  have hbl : (enc ((t.drop p).take s)).length ≤ 28 := by
    have := enc_len ((t.drop p).take s)
    have h2 : ((t.drop p).take s).length ≤ 7 := by simp; omega
    omega
  intro m
  induction m using Nat.strongRecOn with
  | _ m ih =>
  intro j hj hle
  have hlj := sLeft_ok t (p + j) 1 (by omega) (by omega)
  have hpj := sPeek_ok t (p + j) 0 (by omega) (by omega)
  rw [Nat.add_zero] at hpj
  refine token_scanner_hexO_l0 ?_
  unfold token_scanner_hexO_R0
  refine ⟨_, _, _, hlj, fun hl => ?in_, fun hl => ?out⟩
  case' in_ =>
    have hl' : p + j + 1 ≤ t.length := of_decide_eq_true hl
    refine ⟨_, _, _, hpj, ?_⟩
    simp only [bne_t, bne_f, dec_t, dec_f]
    rw [pkL_lt (by omega), w64 (n := ((p + j : Nat) : Int) - (p : Int)) (by omega) (by omega)]
    refine ⟨fun h59 => ⟨fun h7 => ?nx, fun h7 => ?o1⟩, fun h59 => ?o2⟩
    case' nx =>
      rw [w64 (by omega) (by omega)]
      have hlt : j < s := by
        rcases s2 with s2 | s2 | s2
        · omega
        · omega
        · rw [rd_dropN] at s2
          by_cases he : j = s
          · subst he; exact absurd s2 h59
          · omega
      exact ih (t.length - (p + (j + 1))) (by omega) (j + 1) rfl (by omega)
  all_goals
    have hjs : j = s := by
      by_cases he : j = s
      · exact he
      · first
        | omega
        | (have := s1 j (by omega); rw [rd_dropN] at this; exact absurd h59 this)
        | (have := of_decide_eq_false hl; omega)
    clear ih
    subst hjs
    refine ⟨_, _, _, hpj, ?_⟩
    simp only [bne_t, bne_f, beq_t, beq_f]
    refine ⟨fun a => ?_, fun a => ⟨fun b => ?_, fun b => ?_⟩⟩
    · rw [if_neg (fun h => a h.1), if_neg a] at hR
      exact hR _ (Wk.refl _)
    · have h0 : j = 0 := by omega
      rw [if_neg (fun h => h.2 h0), if_pos a] at hR
      rw [h0, List.take_zero, show enc [] = [] from rfl, hexV_nil] at hR
      rw [h0]
      exact hR _ (Wk.refl _)
    · have h0 : j ≠ 0 := by omega
      have hpt : p + j ≤ t.length := by omega
      rw [if_pos ⟨a, h0⟩, if_pos a] at hR
      rw [ints_len, Int.toNat_natCast, Int.toNat_natCast, ints_take, ints_drop]
      have e1 : (t.take (p + j)).drop p = (t.drop p).take j := by rw [List.drop_take]; congr 1; omega
      rw [e1]
      have hN := uNamed_ok (120 :: enc ((t.drop p).take j)) (by
        intro x hx
        rcases List.mem_cons.1 hx with rfl | hx
        · omega
        · exact hbx x hx) (by rw [List.length_cons]; omega)
      rw [namedV_x hbx (hne h0 hpt), ← x_of] at hN
      have sc := hexV_scal (enc ((t.drop p).take j))
      refine ⟨⟨by omega, by omega, by omega⟩, _, _, uEncode_ok _ hscal (by simp; omega), _, enc_map _, ?_, _, _, hN, ?_⟩
      · rw [size_of, show (ByteArray.mk #[120]).size = 1 from rfl]; omega
      · simp only [not_t, not_f, dec_t, dec_f]
        rw [w64 (by omega) (by omega)]
        refine ⟨fun hv => ?_, fun hv => ?_⟩
        · have : hexV (enc ((t.drop p).take j)) = -1 := by
            rcases sc with sc | sc
            · exact sc
            · have := (scal_in sc).1; omega
          rw [this] at hR
          exact hR _ (Wk.refl _)
        · rw [if_pos hv]
          exact hR _ (Wk.refl _)
theorem sHex_ok (t : List Int) (hs : Scals t) (hlen : t.length ≤ 100000000) (p : Nat) (hp : p ≤ t.length) : Fn Tryd.prog 76 [scP] (scM t p) (fzI .i64 (hxV (t.drop p))) (scM t (p + hxQ (t.drop p))) := by
  refine token_scanner_hexO_fn _ _ ?_
  obtain ⟨R, hR, hRe⟩ := exW (fzI .i64 (hxV (t.drop p))) (scM t (p + hxQ (t.drop p))); rw [hRe]; clear hRe
  unfold token_scanner_hexO_H
  exact sHex_loop t hs hlen p hp R hR _ 0 rfl (Nat.zero_le _)
def esQ (r : List Int) : Nat := if pkL r 0 = 120 then 1 + hxQ (r.drop 1) else 1
theorem escV_hex {r : List Int} (h : pkL r 0 = 120) : (escV r).1 = hxV (r.drop 1) ∧ (0 ≤ hxV (r.drop 1) → (escV r).2 = 1 + hxQ (r.drop 1)) := by
  unfold escV hxV hxQ
  simp only [h]
  rw [if_neg (by omega), if_neg (by omega), if_neg (by omega), if_neg (by omega), if_neg (by omega), if_pos trivial]
  by_cases h59 : pkL (r.drop 1) (semN 7 (r.drop 1)) = 59
  · rw [if_pos h59, if_pos h59]
    refine ⟨rfl, fun h0 => ?_⟩
    by_cases hz : semN 7 (r.drop 1) = 0
    · rw [hz, List.take_zero, show enc [] = [] from rfl, hexV_nil] at h0; omega
    · rw [if_pos ⟨h59, hz⟩]; simp only; omega
  · rw [if_neg h59, if_neg h59]
    exact ⟨rfl, fun h0 => by omega⟩
theorem sEscape_ok (t : List Int) (hs : Scals t) (hlen : t.length ≤ 100000000) (p : Nat) (hp : p ≤ t.length) :
    Fn Tryd.prog 63 [scP] (scM t p) (fzI .i64 (escV (t.drop p)).1) (scM t (p + esQ (t.drop p))) := by
  refine token_scanner_escapeO_fn _ _ ?_
  obtain ⟨R, hR, hRe⟩ := exW (fzI .i64 (escV (t.drop p)).1) (scM t (p + esQ (t.drop p))); rw [hRe]; clear hRe
  unfold token_scanner_escapeO_H
  have hpj := sPeek_ok t p 0 (by omega) (by omega)
  have hk : pkL (t.drop p) 0 = pkL t (p + 0) := pkL_drop _ _ _
  refine ⟨_, _, _, hpj, ?_⟩
  rw [← hk, w64 (by omega) (by omega)]
  simp only [beq_t, beq_f]
  have one : pkL (t.drop p) 0 ≠ 120 → ∀ v, (escV (t.drop p)).1 = v → R (fzI .i64 v) (scM t (p + 1)) := fun hx v hv => by
    unfold esQ at hR
    rw [if_neg hx, hv] at hR
    exact hR _ (Wk.refl _)
  refine ⟨fun c => one (by omega) _ ?_, fun c1 => ⟨fun c => one (by omega) _ ?_, fun c2 => ⟨fun c => one (by omega) _ ?_, fun c3 => ⟨fun c => one (by omega) _ ?_, fun c4 => ⟨fun c => one (by omega) _ ?_, fun c5 => ⟨fun c => ?_, fun c6 => one c6 _ ?_⟩⟩⟩⟩⟩⟩
  · unfold escV; simp only [c]; rfl
  · unfold escV; simp only [c]; rfl
  · unfold escV; simp only [c]; rfl
  · unfold escV; simp only [c]; rfl
  · unfold escV; simp only [c]; rfl
  · have hpt : p + 1 ≤ t.length := by
      rw [hk] at c
      unfold pkL at c
      split at c <;> omega
    obtain ⟨e1, e2⟩ := escV_hex c
    have hx := sHex_ok t hs hlen (p + 1) hpt
    rw [List.drop_drop] at e1 e2
    unfold esQ at hR
    rw [if_pos c, List.drop_drop, e1, show p + (1 + hxQ (t.drop (p + 1))) = p + 1 + hxQ (t.drop (p + 1)) by omega] at hR
    exact ⟨_, _, _, hx, hR _ (Wk.refl _)⟩
  · unfold escV
    simp only
    rw [if_neg c1, if_neg c3, if_neg c2, if_neg c4, if_neg c5, if_neg c6]
theorem escV_pos {r : List Int} (h : 0 ≤ (escV r).1) : esQ r = (escV r).2 ∧ scalB (escV r).1 = true ∧ (escV r).2 ≤ r.length := by
  by_cases c : pkL r 0 = 120
  · obtain ⟨e1, e2⟩ := escV_hex c
    rw [e1] at h ⊢
    refine ⟨by unfold esQ; rw [if_pos c, e2 h], ?_, ?_⟩
    · unfold hxV at h ⊢
      split at h
      · rename_i h59
        rw [if_pos h59]
        rcases hexV_scal (enc ((r.drop 1).take (semN 7 (r.drop 1)))) with sc | sc
        · omega
        · exact sc
      · omega
    · rw [e2 h]
      have l2 := (semN_le 7 (r.drop 1)).2
      have l3 : (r.drop 1).length = r.length - 1 := List.length_drop
      have hr : 1 ≤ r.length := by
        unfold pkL at c
        split at c <;> omega
      unfold hxQ
      split
      · rename_i h59
        have := h59.1
        unfold pkL at this
        split at this <;> omega
      · omega
  · have hn : r.length ≠ 0 := fun e => by
      unfold escV at h
      rw [pkL_ge (by omega)] at h
      simp at h
    unfold esQ
    rw [if_neg c]
    unfold escV at h ⊢
    simp only at h ⊢
    revert h
    repeat' split
    all_goals first
      | (intro _; refine ⟨rfl, by decide, ?_⟩; simp only; omega)
      | (intro h; exact absurd h (by decide))
      | (rename_i h1 _; exact absurd h1 c)
      | (rename_i h1; exact absurd h1 c)
      | (intro _; exact absurd (by assumption) c)
def stV (p : Option (List Int × Nat)) : List Int := match p with | some (a, _) => a | none => []
abbrev stT (p : Option (List Int × Nat)) : TV := match p with
  | some (a, _) => .tup [(false, [.fz (.str (bytesOf (enc a)))]), (false, [.fz (.bool (decide (a.length ≤ 4096)))])]
  | none => .tup [(false, [.fz (.str (bytesOf []))]), (false, [.fz (.bool false)])]
def strP : Nat → List Int → Nat → Nat
  | 0, _, k => k
  | _ + 1, [], k => k
  | f + 1, c :: r, k => if c = 34 then k + 1 else if c ≠ 92 then strP f r (k + 1) else if (escV r).1 < 0 then k + 1 + esQ r else strP f (r.drop (escV r).2) (k + 1 + (escV r).2)
theorem strP_some : ∀ (f : Nat) (r acc : List Int) (k : Nat) (a : List Int) (e : Nat), strF f r acc k = some (a, e) → strP f r k = e
  | 0, r, acc, k, a, e, h => by unfold strF at h; cases h
  | f + 1, [], acc, k, a, e, h => by unfold strF at h; cases h
  | f + 1, c :: r, acc, k, a, e, h => by
    unfold strF at h
    unfold strP
    split
    · rename_i hc
      rw [if_pos hc] at h; cases h; rfl
    · rename_i hc
      rw [if_neg hc] at h
      split
      · rename_i hc2
        rw [if_pos hc2] at h
        exact strP_some f r _ _ a e h
      · rename_i hc2
        rw [if_neg hc2] at h
        split
        · rename_i hc3
          rw [if_pos hc3] at h; cases h
        · rename_i hc3
          rw [if_neg hc3] at h
          exact strP_some f _ _ _ a e h
theorem sStr_loop (t : List Int) (hs : Scals t) (hlen : t.length ≤ 100000000) (R : TV → List Ob → Prop) : ∀ (f q : Nat) (acc : List Int), t.length - q < f → q ≤ t.length → acc.length ≤ q → Scals acc →
    (∀ h', Wk h' (scM t (strP f (t.drop q) q)) → R (stT (strF f (t.drop q) acc q)) h') → token_scanner_strO_L0 R (ints .i64 t) q (ints .i64 acc) := by
  intro f
  induction f with
  | zero => intro q acc hf; omega
  | succ f ih =>
    intro q acc hf hle hacc hsa hR
    have hl := sLeft_ok t q 1 (by omega) (by omega)
    have hp := sPeek_ok t q 0 (by omega) (by omega)
    refine token_scanner_strO_l0 ?_
    unfold token_scanner_strO_R0
    refine ⟨_, _, _, hl, fun h1 => ?_, fun h1 => ?_⟩
    · have hlt : q < t.length := of_decide_eq_true h1
      rw [Nat.add_zero, pkL_lt hlt] at hp
      rw [drop_rd' t q hlt] at hR
      unfold strF strP at hR
      have e : IntKind.wrap .i64 ((q : Int) + 1) = ((q + 1 : Nat) : Int) := w64 (by omega) (by omega)
      refine ⟨_, _, _, hp, ?_⟩
      simp only [beq_t, beq_f, dec_t, dec_f, e, ints_len]
      refine ⟨fun c34 => ?_, fun c34 => ⟨fun c92 => ?_, fun c92 => ?_⟩⟩
      · rw [if_pos c34, if_pos c34] at hR
        refine ⟨_, _, uEncode_ok acc hsa (by omega), _, enc_map _, ?_⟩
        have hx := hR _ (Wk.refl _)
        unfold stT at hx
        simp only at hx
        have e2 : decide ((acc.length : Int) ≤ 4096) = decide (acc.length ≤ 4096) := by rw [decide_eq_decide]; omega
        rw [e2]
        exact hx
      · have n92 : ¬ (rd t q ≠ 92) := fun h => h c92
        rw [if_neg c34, if_neg c34, if_neg n92, if_neg n92] at hR
        have hE := sEscape_ok t hs hlen (q + 1) (by omega)
        refine ⟨_, _, _, hE, fun hv => ?_, fun hv => ?_⟩
        · rw [if_pos hv, if_pos hv] at hR
          exact hR _ (Wk.refl _)
        · rw [if_neg hv, if_neg hv] at hR
          obtain ⟨g1, g2, g3⟩ := escV_pos (r := t.drop (q + 1)) (by omega)
          rw [List.length_drop] at g3
          rw [g1, ints_snoc]
          rw [List.drop_drop] at hR
          exact ⟨by simp only [List.length_cons, List.length_nil]; omega, ih (q + 1 + (escV (t.drop (q + 1))).2) (acc ++ [(escV (t.drop (q + 1))).1]) (by omega) (by omega) (by simp; omega) (by
            intro c hc
            rcases List.mem_append.1 hc with hc | hc
            · exact hsa c hc
            · simp at hc; rw [hc]; exact g2) hR⟩
      · rw [if_neg c34, if_neg c34, if_pos c92, if_pos c92] at hR
        rw [ints_snoc]
        exact ⟨by simp only [List.length_cons, List.length_nil]; omega, ih (q + 1) (acc ++ [rd t q]) (by omega) (by omega) (by simp; omega) (by
            intro c hc
            rcases List.mem_append.1 hc with hc | hc
            · exact hsa c hc
            · simp at hc; rw [hc]; exact hs.rd hlt) hR⟩
    · have hge : t.length ≤ q := by have := of_decide_eq_false h1; omega
      rw [List.drop_eq_nil_of_le hge] at hR
      exact hR _ (Wk.refl _)
theorem sStr_ok (t : List Int) (hs : Scals t) (hlen : t.length ≤ 100000000) (p : Nat) (hp : p ≤ t.length) :
    Fn Tryd.prog 46 [scP] (scM t p) (stT (strF (t.length + 1) (t.drop p) [] p)) (scM t (strP (t.length + 1) (t.drop p) p)) := by
  refine token_scanner_strO_fn _ _ ?_
  obtain ⟨R, hR, hRe⟩ := exW (stT (strF (t.length + 1) (t.drop p) [] p)) (scM t (strP (t.length + 1) (t.drop p) p)); rw [hRe]; clear hRe
  unfold token_scanner_strO_H
  exact sStr_loop t hs hlen R (t.length + 1) p [] (by omega) hp (by simp) (by intro c hc; cases hc) hR
theorem ch1_scal {l : List Int} (hl : Bytes l) (hne : l ≠ []) (h : (ch1 l).2 ≠ 0) : scalB (ch1 l).1 = true := by
  have b0 := rd_byte hl 0
  revert h
  unfold ch1 chN scalB
  repeat' split
  all_goals first | (intro h; exact absurd rfl h) | (intro _; simp; omega)
theorem namedV_scal {T : List Int} (hT : Bytes T) : namedV T < 0 ∨ scalB (namedV T) = true := by
  unfold namedV
  by_cases h0 : T = [115, 112, 97, 99, 101]
  · rw [if_pos h0]; exact .inr (by decide)
  rw [if_neg h0]
  by_cases h1 : T = [110, 101, 119, 108, 105, 110, 101]
  · rw [if_pos h1]; exact .inr (by decide)
  rw [if_neg h1]
  by_cases h2 : T = [116, 97, 98]
  · rw [if_pos h2]; exact .inr (by decide)
  rw [if_neg h2]
  by_cases h3 : T = [114, 101, 116, 117, 114, 110]
  · rw [if_pos h3]; exact .inr (by decide)
  rw [if_neg h3]
  by_cases h4 : T = [110, 117, 108, 108]
  · rw [if_pos h4]; exact .inr (by decide)
  rw [if_neg h4]
  by_cases h5 : T = [100, 101, 108, 101, 116, 101]
  · rw [if_pos h5]; exact .inr (by decide)
  rw [if_neg h5]
  split
  · rename_i h
    have h1 := (chars_one hT).1 h
    obtain ⟨q1, q2⟩ := namedV_one hT h1
    rw [q1]
    unfold oneB at h1
    rw [decide_eq_true_eq] at h1
    right
    exact ch1_scal hT h1.1 (by rw [h1.2]; have : T.length ≠ 0 := fun e => h1.1 (List.length_eq_zero_iff.1 e); omega)
  · split
    · rcases hexV_scal (T.drop 1) with h | h
      · left; omega
      · exact .inr h
    · left; omega
def chN_ (r : List Int) : Nat := 1 + untilN (r.drop 1)
def chB (r : List Int) : List Int := enc (r.take (chN_ r))
def chV (r : List Int) : Int := if r = [] then -1 else namedV (chB r)
def chQ (r : List Int) : Nat := if r = [] then 0 else chN_ r
def chX (r : List Int) : List Int := if r = [] then [] else utfB (if 0 ≤ chV r then chV r else 0)
theorem sChar_ok (t : List Int) (hs : Scals t) (hlen : t.length ≤ 4000000) (p : Nat) (hp : p ≤ t.length) :
    Fn Tryd.prog 47 [scP] (scM t p) (.tup [(false, [.fz (.str (bytesOf (chX (t.drop p))))]), (false, [.fz (.bool (decide (0 ≤ chV (t.drop p))))])]) (scM t (p + chQ (t.drop p))) := by
  refine token_scanner_charO_fn _ _ ?_
  obtain ⟨R, hR, hRe⟩ := exW (.tup [(false, [.fz (.str (bytesOf (chX (t.drop p))))]), (false, [.fz (.bool (decide (0 ≤ chV (t.drop p))))])]) (scM t (p + chQ (t.drop p))); rw [hRe]; clear hRe
  unfold token_scanner_charO_H
  refine ⟨_, _, _, sLeft_ok t p 1 (by omega) (by omega), ?_⟩
  simp only [not_t, not_f, decide_eq_true_eq, decide_eq_false_iff_not]
  refine ⟨fun h => ?_, fun h => ?_⟩
  · have hd : t.drop p = [] := List.drop_eq_nil_of_le (by omega)
    rw [hd] at hR
    exact hR _ (Wk.refl _)
  · have hd : t.drop p ≠ [] := fun e => by have := congrArg List.length e; simp at this; omega
    have hW := sWhile_ok t hs (by omega) p 1 h
    have e1 : 1 + untilN (t.drop (p + 1)) = chN_ (t.drop p) := by unfold chN_; rw [List.drop_drop]
    have hun := untilN_le (t.drop (p + 1))
    rw [List.length_drop] at hun
    have hbB : Bytes (chB (t.drop p)) := enc_bytes ((hs.drop p).take _)
    have hbl : (chB (t.drop p)).length ≤ 16777216 := by
      have := enc_len ((t.drop p).take (chN_ (t.drop p)))
      unfold chB
      simp only [List.length_take, List.length_drop] at this
      omega
    rw [e1, show p + 1 + untilN (t.drop (p + 1)) = p + chN_ (t.drop p) by omega] at hW
    have hN := uNamed_ok (chB (t.drop p)) hbB hbl
    have hsc := namedV_scal hbB
    unfold chX chV chQ at hR
    rw [if_neg hd, if_neg hd, if_neg hd] at hR
    refine ⟨_, _, _, hW, _, _, hN, ?_⟩
    generalize namedV (chB (t.drop p)) = v at *
    have hE := uEncode_ok [if 0 ≤ v then v else 0] (by
      intro c hc
      simp at hc
      rw [hc]
      split
      · rcases hsc with hsc | hsc
        · omega
        · exact hsc
      · decide) (by simp)
    refine ⟨_, _, hE, _, enc_map _, ?_⟩
    rw [show enc [if 0 ≤ v then v else 0] = utfB (if 0 ≤ v then v else 0) by simp [enc]]
    exact hR _ (Wk.refl _)
end Go.Proofs.YtejefchehdifhaaDoor.Ev
end
section
set_option linter.unusedVariables false
set_option maxRecDepth 100000
namespace Go.Proofs.YtejefchehdifhaaDoor.Ev
open Go
def token_scanner_nextO_lv : List Nat → Keep := lvOf [([0, 1, 0, 1, 1], ⟨12301, 0, [], false, false⟩)]
def token_scanner_nextO_S0 (p : Int) (i : Int) (o : List (List FV)) (o1 : Int) : St := (St.mk [(TV.one (AV.ptr 0 0 0 59)), TV.und, (TV.one (AV.ptr 1 0 0 0)), (TV.one (AV.fz (FV.int .i64 p))), TV.und, TV.und, TV.und, TV.und, TV.und, TV.und, TV.und, TV.und, (TV.agg [(AV.fz (FV.str (ByteArray.mk #[35, 44, 64]))), (AV.fz (FV.int .i64 6)), (AV.fz (FV.str (ByteArray.mk #[117, 110, 115, 121, 110, 116, 97, 120, 45, 115, 112, 108, 105, 99, 105, 110, 103]))), (AV.fz (FV.str (ByteArray.mk #[35, 40]))), (AV.fz (FV.int .i64 3)), (AV.fz (FV.str (ByteArray.mk #[]))), (AV.fz (FV.str (ByteArray.mk #[35, 59]))), (AV.fz (FV.int .i64 5)), (AV.fz (FV.str (ByteArray.mk #[]))), (AV.fz (FV.str (ByteArray.mk #[35, 39]))), (AV.fz (FV.int .i64 6)), (AV.fz (FV.str (ByteArray.mk #[115, 121, 110, 116, 97, 120]))), (AV.fz (FV.str (ByteArray.mk #[35, 96]))), (AV.fz (FV.int .i64 6)), (AV.fz (FV.str (ByteArray.mk #[113, 117, 97, 115, 105, 115, 121, 110, 116, 97, 120]))), (AV.fz (FV.str (ByteArray.mk #[35, 44]))), (AV.fz (FV.int .i64 6)), (AV.fz (FV.str (ByteArray.mk #[117, 110, 115, 121, 110, 116, 97, 120]))), (AV.fz (FV.str (ByteArray.mk #[44, 64]))), (AV.fz (FV.int .i64 6)), (AV.fz (FV.str (ByteArray.mk #[117, 110, 113, 117, 111, 116, 101, 45, 115, 112, 108, 105, 99, 105, 110, 103]))), (AV.fz (FV.str (ByteArray.mk #[40]))), (AV.fz (FV.int .i64 1)), (AV.fz (FV.str (ByteArray.mk #[]))), (AV.fz (FV.str (ByteArray.mk #[41]))), (AV.fz (FV.int .i64 2)), (AV.fz (FV.str (ByteArray.mk #[]))), (AV.fz (FV.str (ByteArray.mk #[39]))), (AV.fz (FV.int .i64 6)), (AV.fz (FV.str (ByteArray.mk #[113, 117, 111, 116, 101]))), (AV.fz (FV.str (ByteArray.mk #[96]))), (AV.fz (FV.int .i64 6)), (AV.fz (FV.str (ByteArray.mk #[113, 117, 97, 115, 105, 113, 117, 111, 116, 101]))), (AV.fz (FV.str (ByteArray.mk #[44]))), (AV.fz (FV.int .i64 6)), (AV.fz (FV.str (ByteArray.mk #[117, 110, 113, 117, 111, 116, 101])))]), (TV.one (AV.fz (FV.int .i64 i))), TV.und, TV.und, TV.und, TV.und, TV.und, TV.und, TV.und, TV.und, TV.und, TV.und, TV.und, TV.und, TV.und, TV.und, TV.und, TV.und, TV.und, TV.und, TV.und, TV.und, TV.und, TV.und, TV.und, TV.und, TV.und, TV.und, TV.und, TV.und, TV.und, TV.und, TV.und, TV.und, TV.und, TV.und, TV.und, TV.und, TV.und, TV.und, TV.und, TV.und, TV.und, TV.und, TV.und, TV.und, TV.und, TV.und, TV.und, TV.und, TV.und, TV.und, TV.und, TV.und, TV.und, TV.und, TV.und, TV.und, TV.und, TV.und, TV.und, TV.und] [(Ob.g 59 [(AV.fz (FV.sl 1 o)), (AV.fz (FV.int .i64 o1))]), (Ob.g 36 [(AV.fz (FV.int .i64 0)), (AV.fz (FV.str (ByteArray.mk #[]))), (AV.fz (FV.int .i64 0)), (AV.fz (FV.str (ByteArray.mk #[]))), (AV.fz (FV.bool false)), (AV.ofl 1 2), (AV.ofl 6 3), (AV.fz (FV.int .i64 0)), (AV.fz (FV.int .i64 0))]), (Ob.f 0 1 ([] : List (List FV))), (Ob.f 0 6 ([] : List (List FV)))])
def token_scanner_nextO_L0 (R : TV → List Ob → Prop) (RX : FV → List Ob → Prop) (p : Int) (i : Int) (o : List (List FV)) (o1 : Int) : Prop := LoopAt Tryd.prog (modeX [] [(22, [(Sig.mk 1 [(false, [(AT.k CK.bool)])] [(OT.g 59 [(AT.k (CK.sl 1)), (AT.k (CK.int .i64))])] 0)]), (34, [(Sig.mk 1 [(false, [(AT.k (CK.int .i64))])] [(OT.g 59 [(AT.k (CK.sl 1)), (AT.k (CK.int .i64))])] 0)]), (36, [(Sig.mk 1 [(false, [(AT.k CK.bool)])] [(OT.g 59 [(AT.k (CK.sl 1)), (AT.k (CK.int .i64))])] 0)]), (37, [(Sig.mk 1 [(true, [(AT.k (CK.int .i64)), (AT.k CK.str), (AT.k CK.bool), (AT.k (CK.sl 1)), (AT.k (CK.sl 6)), (AT.k (CK.int .i64))]), (false, [(AT.k CK.bool)])] [(OT.g 59 [(AT.k (CK.sl 1)), (AT.k (CK.int .i64))])] 0)])] [] 1 RX) token_scanner_nextO_lv Tryd.f23 (some 1) R [1, 1, 0, 1, 0] (token_scanner_nextO_S0 p i o o1)
def token_scanner_nextO_R0 (R : TV → List Ob → Prop) (RX : FV → List Ob → Prop) (p : Int) (i : Int) (o : List (List FV)) (o1 : Int) : Prop :=
  ((((decide (i < 12)) = true) → ((((0 : Int) ≤ i) ∧ (i < 12)) ∧ (∃ s8 : ByteArray, (∃ n26 : Int, (∃ s9 : ByteArray, ((cutT [(AV.fz (FV.str (ByteArray.mk #[35, 44, 64]))), (AV.fz (FV.int .i64 6)), (AV.fz (FV.str (ByteArray.mk #[117, 110, 115, 121, 110, 116, 97, 120, 45, 115, 112, 108, 105, 99, 105, 110, 103]))), (AV.fz (FV.str (ByteArray.mk #[35, 40]))), (AV.fz (FV.int .i64 3)), (AV.fz (FV.str (ByteArray.mk #[]))), (AV.fz (FV.str (ByteArray.mk #[35, 59]))), (AV.fz (FV.int .i64 5)), (AV.fz (FV.str (ByteArray.mk #[]))), (AV.fz (FV.str (ByteArray.mk #[35, 39]))), (AV.fz (FV.int .i64 6)), (AV.fz (FV.str (ByteArray.mk #[115, 121, 110, 116, 97, 120]))), (AV.fz (FV.str (ByteArray.mk #[35, 96]))), (AV.fz (FV.int .i64 6)), (AV.fz (FV.str (ByteArray.mk #[113, 117, 97, 115, 105, 115, 121, 110, 116, 97, 120]))), (AV.fz (FV.str (ByteArray.mk #[35, 44]))), (AV.fz (FV.int .i64 6)), (AV.fz (FV.str (ByteArray.mk #[117, 110, 115, 121, 110, 116, 97, 120]))), (AV.fz (FV.str (ByteArray.mk #[44, 64]))), (AV.fz (FV.int .i64 6)), (AV.fz (FV.str (ByteArray.mk #[117, 110, 113, 117, 111, 116, 101, 45, 115, 112, 108, 105, 99, 105, 110, 103]))), (AV.fz (FV.str (ByteArray.mk #[40]))), (AV.fz (FV.int .i64 1)), (AV.fz (FV.str (ByteArray.mk #[]))), (AV.fz (FV.str (ByteArray.mk #[41]))), (AV.fz (FV.int .i64 2)), (AV.fz (FV.str (ByteArray.mk #[]))), (AV.fz (FV.str (ByteArray.mk #[39]))), (AV.fz (FV.int .i64 6)), (AV.fz (FV.str (ByteArray.mk #[113, 117, 111, 116, 101]))), (AV.fz (FV.str (ByteArray.mk #[96]))), (AV.fz (FV.int .i64 6)), (AV.fz (FV.str (ByteArray.mk #[113, 117, 97, 115, 105, 113, 117, 111, 116, 101]))), (AV.fz (FV.str (ByteArray.mk #[44]))), (AV.fz (FV.int .i64 6)), (AV.fz (FV.str (ByteArray.mk #[117, 110, 113, 117, 111, 116, 101])))] ((Int.toNat i) * 3) 3 [(FV.str s8), (FV.int .i64 n26), (FV.str s9)]) ∧ (∃ es20 : List (List FV), (∃ n27 : Int, (∃ b14 : Bool, ((Fn Tryd.prog 36 [(TV.one (AV.ptr 0 0 0 59)), (TV.one (AV.fz (FV.str s8)))] [(Ob.g 59 [(AV.fz (FV.sl 1 o)), (AV.fz (FV.int .i64 o1))])] (TV.one (AV.fz (FV.bool b14))) [(Ob.g 59 [(AV.fz (FV.sl 1 es20)), (AV.fz (FV.int .i64 n27))])]) ∧ (((b14 = true) → (R (TV.agg [(AV.fz (FV.int .i64 n26)), (AV.fz (FV.str s9)), (AV.fz (FV.int .i64 0)), (AV.fz (FV.str (ByteArray.mk #[]))), (AV.fz (FV.bool false)), (AV.ofl 1 1), (AV.ofl 6 2), (AV.fz (FV.int .i64 0)), (AV.fz (FV.int .i64 p))]) [(Ob.g 59 [(AV.fz (FV.sl 1 es20)), (AV.fz (FV.int .i64 (IntKind.wrap .i64 (n27 + (((ByteArray.size s8) : Nat) : Int)))))]), (Ob.f 0 1 ([] : List (List FV))), (Ob.f 0 6 ([] : List (List FV)))])) ∧ ((b14 = false) → (token_scanner_nextO_L0 R RX p (IntKind.wrap .i64 (i + 1)) es20 n27))))))))))))) ∧ (((decide (i < 12)) = false) → (∃ es21 : List (List FV), (∃ n28 : Int, (∃ n29 : Int, ((Fn Tryd.prog 34 [(TV.one (AV.ptr 0 0 0 59)), (TV.one (AV.fz (FV.int .i64 0)))] [(Ob.g 59 [(AV.fz (FV.sl 1 o)), (AV.fz (FV.int .i64 o1))])] (TV.one (AV.fz (FV.int .i64 n29))) [(Ob.g 59 [(AV.fz (FV.sl 1 es21)), (AV.fz (FV.int .i64 n28))])]) ∧ ((((n29 == 46) = true) → (∃ es22 : List (List FV), (∃ n30 : Int, (∃ b15 : Bool, ((Fn Tryd.prog 22 [(TV.one (AV.ptr 0 0 0 59)), (TV.one (AV.fz (FV.int .i64 2)))] [(Ob.g 59 [(AV.fz (FV.sl 1 es21)), (AV.fz (FV.int .i64 n28))])] (TV.one (AV.fz (FV.bool b15))) [(Ob.g 59 [(AV.fz (FV.sl 1 es22)), (AV.fz (FV.int .i64 n30))])]) ∧ ((((Bool.not b15) = true) → (R (TV.agg [(AV.fz (FV.int .i64 4)), (AV.fz (FV.str (ByteArray.mk #[]))), (AV.fz (FV.int .i64 0)), (AV.fz (FV.str (ByteArray.mk #[]))), (AV.fz (FV.bool false)), (AV.ofl 1 1), (AV.ofl 6 2), (AV.fz (FV.int .i64 0)), (AV.fz (FV.int .i64 p))]) [(Ob.g 59 [(AV.fz (FV.sl 1 es22)), (AV.fz (FV.int .i64 (IntKind.wrap .i64 (n30 + 1))))]), (Ob.f 0 1 ([] : List (List FV))), (Ob.f 0 6 ([] : List (List FV)))])) ∧ (((Bool.not b15) = false) → (∃ es23 : List (List FV), (∃ n31 : Int, (∃ n32 : Int, ((Fn Tryd.prog 34 [(TV.one (AV.ptr 0 0 0 59)), (TV.one (AV.fz (FV.int .i64 1)))] [(Ob.g 59 [(AV.fz (FV.sl 1 es22)), (AV.fz (FV.int .i64 n30))])] (TV.one (AV.fz (FV.int .i64 n32))) [(Ob.g 59 [(AV.fz (FV.sl 1 es23)), (AV.fz (FV.int .i64 n31))])]) ∧ (∃ b16 : Bool, ((Fn Tryd.prog 31 [(TV.one (AV.fz (FV.int .i64 n32)))] [] (TV.one (AV.fz (FV.bool b16))) []) ∧ (((b16 = true) → (R (TV.agg [(AV.fz (FV.int .i64 4)), (AV.fz (FV.str (ByteArray.mk #[]))), (AV.fz (FV.int .i64 0)), (AV.fz (FV.str (ByteArray.mk #[]))), (AV.fz (FV.bool false)), (AV.ofl 1 1), (AV.ofl 6 2), (AV.fz (FV.int .i64 0)), (AV.fz (FV.int .i64 p))]) [(Ob.g 59 [(AV.fz (FV.sl 1 es23)), (AV.fz (FV.int .i64 (IntKind.wrap .i64 (n31 + 1))))]), (Ob.f 0 1 ([] : List (List FV))), (Ob.f 0 6 ([] : List (List FV)))])) ∧ ((b16 = false) → (∃ es24 : List (List FV), (∃ n33 : Int, (∃ n34 : Int, (∃ s10 : ByteArray, (∃ b17 : Bool, (∃ es25 : List (List FV), (∃ es26 : List (List FV), (∃ n35 : Int, (∃ b18 : Bool, ((Fn Tryd.prog 37 [(TV.one (AV.ptr 0 0 0 59))] [(Ob.g 59 [(AV.fz (FV.sl 1 es23)), (AV.fz (FV.int .i64 n31))])] (TV.tup [(true, [(AV.fz (FV.int .i64 n34)), (AV.fz (FV.str s10)), (AV.fz (FV.bool b17)), (AV.fz (FV.sl 1 es25)), (AV.fz (FV.sl 6 es26)), (AV.fz (FV.int .i64 n35))]), (false, [(AV.fz (FV.bool b18))])]) [(Ob.g 59 [(AV.fz (FV.sl 1 es24)), (AV.fz (FV.int .i64 n33))])]) ∧ ((((Bool.not b18) = true) → (RX (FV.ifv 55 true [(FV.int .i64 p)]) [(Ob.g 59 [AV.und, AV.und])])) ∧ (((Bool.not b18) = false) → (R (TV.agg [(AV.fz (FV.int .i64 7)), (AV.fz (FV.str (ByteArray.mk #[]))), (AV.fz (FV.int .i64 n34)), (AV.fz (FV.str s10)), (AV.fz (FV.bool b17)), (AV.fz (FV.sl 1 es25)), (AV.fz (FV.sl 6 es26)), (AV.fz (FV.int .i64 p)), (AV.fz (FV.int .i64 p))]) [(Ob.g 59 [(AV.fz (FV.sl 1 es24)), (AV.fz (FV.int .i64 n33))])])))))))))))))))))))))))))))) ∧ (((n29 == 46) = false) → (∃ es27 : List (List FV), (∃ n36 : Int, (∃ n37 : Int, (∃ s11 : ByteArray, (∃ b19 : Bool, (∃ es28 : List (List FV), (∃ es29 : List (List FV), (∃ n38 : Int, (∃ b20 : Bool, ((Fn Tryd.prog 37 [(TV.one (AV.ptr 0 0 0 59))] [(Ob.g 59 [(AV.fz (FV.sl 1 es21)), (AV.fz (FV.int .i64 n28))])] (TV.tup [(true, [(AV.fz (FV.int .i64 n37)), (AV.fz (FV.str s11)), (AV.fz (FV.bool b19)), (AV.fz (FV.sl 1 es28)), (AV.fz (FV.sl 6 es29)), (AV.fz (FV.int .i64 n38))]), (false, [(AV.fz (FV.bool b20))])]) [(Ob.g 59 [(AV.fz (FV.sl 1 es27)), (AV.fz (FV.int .i64 n36))])]) ∧ ((((Bool.not b20) = true) → (RX (FV.ifv 55 true [(FV.int .i64 p)]) [(Ob.g 59 [AV.und, AV.und])])) ∧ (((Bool.not b20) = false) → (R (TV.agg [(AV.fz (FV.int .i64 7)), (AV.fz (FV.str (ByteArray.mk #[]))), (AV.fz (FV.int .i64 n37)), (AV.fz (FV.str s11)), (AV.fz (FV.bool b19)), (AV.fz (FV.sl 1 es28)), (AV.fz (FV.sl 6 es29)), (AV.fz (FV.int .i64 p)), (AV.fz (FV.int .i64 p))]) [(Ob.g 59 [(AV.fz (FV.sl 1 es27)), (AV.fz (FV.int .i64 n36))])])))))))))))))))))))))
theorem token_scanner_nextO_l0 {R : TV → List Ob → Prop} {RX : FV → List Ob → Prop} {p : Int} {i : Int} {o : List (List FV)} {o1 : Int} (h : token_scanner_nextO_R0 R RX p i o o1) : token_scanner_nextO_L0 R RX p i o o1 :=
  LoopAt.by_tr (by kernel_rfl) (by kernel_rfl) h
def token_scanner_nextO_H (R : TV → List Ob → Prop) (RX : FV → List Ob → Prop) (tx : List (List FV)) (p : Int) : Prop :=
  (token_scanner_nextO_L0 R RX p 0 tx p)
theorem token_scanner_nextO_fc (tx : List (List FV)) (p : Int) {r : TV} {h : List Ob} (H : token_scanner_nextO_H (fun r' h' => Cool 1 r' h' r h) (fun _ _ => False) tx p) : Fn Tryd.prog 23 [(TV.one (AV.ptr 0 0 0 59))] [(Ob.g 59 [(AV.fz (FV.sl 1 tx)), (AV.fz (FV.int .i64 p))])] r h :=
  Fn.by_trC (M := (modeX [] [(22, [(Sig.mk 1 [(false, [(AT.k CK.bool)])] [(OT.g 59 [(AT.k (CK.sl 1)), (AT.k (CK.int .i64))])] 0)]), (34, [(Sig.mk 1 [(false, [(AT.k (CK.int .i64))])] [(OT.g 59 [(AT.k (CK.sl 1)), (AT.k (CK.int .i64))])] 0)]), (36, [(Sig.mk 1 [(false, [(AT.k CK.bool)])] [(OT.g 59 [(AT.k (CK.sl 1)), (AT.k (CK.int .i64))])] 0)]), (37, [(Sig.mk 1 [(true, [(AT.k (CK.int .i64)), (AT.k CK.str), (AT.k CK.bool), (AT.k (CK.sl 1)), (AT.k (CK.sl 6)), (AT.k (CK.int .i64))]), (false, [(AT.k CK.bool)])] [(OT.g 59 [(AT.k (CK.sl 1)), (AT.k (CK.int .i64))])] 0)])] [] 1 (fun _ _ => False))) (lv := token_scanner_nextO_lv) (own := (some 1)) (F := Tryd.f23) (by kernel_rfl) (by kernel_rfl) (by first | decide | simp) (fun _ _ h => h) (by kernel_rfl) H
theorem token_scanner_nextO_fx (tx : List (List FV)) (p : Int) {x : FV} (H : token_scanner_nextO_H (fun _ _ => False) (fun x' h' => x' = x ∧ h' = shH [(Ob.g 59 [(AV.fz (FV.sl 1 tx)), (AV.fz (FV.int .i64 p))])]) tx p) : FnX Tryd.prog 23 [(TV.one (AV.ptr 0 0 0 59))] [(Ob.g 59 [(AV.fz (FV.sl 1 tx)), (AV.fz (FV.int .i64 p))])] x :=
  FnX.by_tr (M := (modeX [] [(22, [(Sig.mk 1 [(false, [(AT.k CK.bool)])] [(OT.g 59 [(AT.k (CK.sl 1)), (AT.k (CK.int .i64))])] 0)]), (34, [(Sig.mk 1 [(false, [(AT.k (CK.int .i64))])] [(OT.g 59 [(AT.k (CK.sl 1)), (AT.k (CK.int .i64))])] 0)]), (36, [(Sig.mk 1 [(false, [(AT.k CK.bool)])] [(OT.g 59 [(AT.k (CK.sl 1)), (AT.k (CK.int .i64))])] 0)]), (37, [(Sig.mk 1 [(true, [(AT.k (CK.int .i64)), (AT.k CK.str), (AT.k CK.bool), (AT.k (CK.sl 1)), (AT.k (CK.sl 6)), (AT.k (CK.int .i64))]), (false, [(AT.k CK.bool)])] [(OT.g 59 [(AT.k (CK.sl 1)), (AT.k (CK.int .i64))])] 0)])] [] 1 (fun x' h' => x' = x ∧ h' = shH [(Ob.g 59 [(AV.fz (FV.sl 1 tx)), (AV.fz (FV.int .i64 p))])]))) (lv := token_scanner_nextO_lv) (own := (some 1)) (F := Tryd.f23) (by kernel_rfl) (by kernel_rfl) (by first | decide | simp) (fun _ _ h => h) (by kernel_rfl) H
end Go.Proofs.YtejefchehdifhaaDoor.Ev
end
section
set_option linter.unusedVariables false
set_option maxRecDepth 100000
namespace Go.Proofs.YtejefchehdifhaaDoor.Ev
open Go
def scanD0_lv : List Nat → Keep := lvOf []
def scanD0_H (R : TV → List Ob → Prop) (a : Int) (e : Int) (l : List (List FV)) : Prop :=
  ((((Bool.not (Bool.not false)) = true) → False) ∧ (((Bool.not (Bool.not false)) = false) → (R (TV.tup []) [(Ob.g 24 [(AV.ofl 9 3)]), (Ob.g 3 [(AV.fz (FV.int .i64 a))]), (Ob.g 25 [(AV.fz (FV.int .i64 e))]), (Ob.f 0 9 l)])))
theorem scanD0_fn (a : Int) (e : Int) (l : List (List FV)) {h : List Ob} (H : scanD0_H (fun _ h' => Wk h' h) a e l) : FnDf Tryd.prog 20 [(TV.one (AV.ptr 0 0 0 24)), (TV.one (AV.ptr 1 0 0 3)), (TV.one (AV.ptr 2 0 0 25))] [(Ob.g 24 [(AV.ofl 9 3)]), (Ob.g 3 [(AV.fz (FV.int .i64 a))]), (Ob.g 25 [(AV.fz (FV.int .i64 e))]), (Ob.f 0 9 l)] none h :=
  FnDf.by_trR (M := (modeOf [] [])) (lv := scanD0_lv) (own := (some 4)) (F := Tryd.f20) (by kernel_rfl) (by kernel_rfl) (by first | decide | simp) (fun _ _ h => h) (by kernel_rfl) H
def scanDx_lv : List Nat → Keep := lvOf []
def scanDx_H (R : TV → List Ob → Prop) (q : Int) : Prop :=
  ((((Bool.not false) = true) → (R (TV.tup []) [(Ob.g 24 [(AV.nsl 9)]), (Ob.g 3 [(AV.fz (FV.int .i64 q))]), (Ob.g 25 [(AV.fz (FV.int .i64 3))])])) ∧ (((Bool.not false) = false) → (R (TV.tup []) [(Ob.g 24 [AV.und]), (Ob.g 3 [AV.und]), (Ob.g 25 [AV.und])])))
theorem scanDx_fn (q : Int) {h : List Ob} (H : scanDx_H (fun _ h' => Wk h' h) q) : FnDf Tryd.prog 20 [(TV.one (AV.ptr 0 0 0 24)), (TV.one (AV.ptr 1 0 0 3)), (TV.one (AV.ptr 2 0 0 25))] [(Ob.g 24 [AV.und]), (Ob.g 3 [AV.und]), (Ob.g 25 [AV.und])] (some (FV.ifv 55 true [(FV.int .i64 q)])) h :=
  FnDf.by_trR (M := (modeOf [] [])) (lv := scanDx_lv) (own := (some 3)) (F := Tryd.f20) (by kernel_rfl) (by kernel_rfl) (by first | decide | simp) (fun _ _ h => h) (by kernel_rfl) H
def token_Scan_lv : List Nat → Keep := lvOf [([0, 1, 0, 1, 1, 1, 1], ⟨92, 0, [], false, false⟩)]
def token_Scan_S0 (es : List (List FV)) (n1 : Int) (o : List (List FV)) : St := (St.mk [TV.und, TV.und, (TV.one (AV.ptr 0 0 0 0)), (TV.one (AV.ptr 1 0 0 0)), (TV.one (AV.ptr 2 0 0 0)), TV.und, (TV.one (AV.ptr 3 0 0 0)), TV.und, TV.und, TV.und, TV.und, TV.und, TV.und, TV.und, TV.und, TV.und, TV.und, TV.und, TV.und, TV.und, TV.und, TV.und, TV.und, TV.und, TV.und, TV.und, TV.und, TV.und] [(Ob.g 24 [(AV.ofl 9 4)]), (Ob.g 3 [(AV.fz (FV.int .i64 0))]), (Ob.g 25 [(AV.fz (FV.int .i64 0))]), (Ob.g 59 [(AV.fz (FV.sl 1 es)), (AV.fz (FV.int .i64 n1))]), (Ob.f 0 9 o)])
def token_Scan_L0 (R : TV → List Ob → Prop) (RX : FV → List Ob → Prop) (es : List (List FV)) (n1 : Int) (o : List (List FV)) : Prop := LoopAtD Tryd.prog (modeX [] [(22, [(Sig.mk 1 [(false, [(AT.k CK.bool)])] [(OT.g 59 [(AT.k (CK.sl 1)), (AT.k (CK.int .i64))])] 0)]), (21, [(Sig.mk 1 [] [(OT.g 59 [(AT.k (CK.sl 1)), (AT.k (CK.int .i64))])] 0)]), (23, [(Sig.mk 1 [(true, [(AT.k (CK.int .i64)), (AT.k CK.str), (AT.k (CK.int .i64)), (AT.k CK.str), (AT.k CK.bool), (AT.k (CK.sl 1)), (AT.k (CK.sl 6)), (AT.k (CK.int .i64)), (AT.k (CK.int .i64))])] [(OT.g 59 [(AT.k (CK.sl 1)), (AT.k (CK.int .i64))])] 0)]), (20, [(Sig.mk 3 [] [(OT.g 24 [(AT.a (AV.nsl 9))]), (OT.g 3 [(AT.k (CK.int .i64))]), (OT.g 25 [(AT.k (CK.int .i64))])] 0), (Sig.mk 4 [] [(OT.g 24 [(AT.a (AV.ofl 9 3))]), (OT.g 3 [(AT.k (CK.int .i64))]), (OT.g 25 [(AT.k (CK.int .i64))]), (OT.f 0 9)] 0)])] [23] 0 RX) token_Scan_lv Tryd.f8 none R 3 [(20, [(AV.ptr 0 0 0 0), (AV.ptr 1 0 0 0), (AV.ptr 2 0 0 0)])] [1, 1, 1, 1, 0, 1, 0] (token_Scan_S0 es n1 o)
def token_Scan_R0 (R : TV → List Ob → Prop) (RX : FV → List Ob → Prop) (es : List (List FV)) (n1 : Int) (o : List (List FV)) : Prop :=
  (∃ es13 : List (List FV), (∃ n24 : Int, (∃ b4 : Bool, ((Fn Tryd.prog 22 [(TV.one (AV.ptr 0 0 0 0)), (TV.one (AV.fz (FV.int .i64 1)))] [(Ob.g 59 [(AV.fz (FV.sl 1 es)), (AV.fz (FV.int .i64 n1))])] (TV.one (AV.fz (FV.bool b4))) [(Ob.g 59 [(AV.fz (FV.sl 1 es13)), (AV.fz (FV.int .i64 n24))])]) ∧ (((b4 = true) → ((∃ v2 : FV, ((FnX Tryd.prog 23 [(TV.one (AV.ptr 0 0 0 0))] [(Ob.g 59 [(AV.fz (FV.sl 1 es13)), (AV.fz (FV.int .i64 n24))])] v2) ∧ (∃ n25 : Int, (∃ n26 : Int, ((FnDf Tryd.prog 20 [(TV.one (AV.ptr 0 0 0 0)), (TV.one (AV.ptr 1 0 0 0)), (TV.one (AV.ptr 2 0 0 0))] [(Ob.g 24 [AV.und]), (Ob.g 3 [AV.und]), (Ob.g 25 [AV.und])] (some v2) [(Ob.g 24 [(AV.nsl 9)]), (Ob.g 3 [(AV.fz (FV.int .i64 n25))]), (Ob.g 25 [(AV.fz (FV.int .i64 n26))])]) ∧ (R (TV.tup [(false, [(AV.fz (FV.sl 9 ([] : List (List FV))))]), (false, [(AV.fz (FV.int .i64 n25))]), (false, [(AV.fz (FV.int .i64 n26))])]) [])))))) ∨ (∃ es14 : List (List FV), (∃ n27 : Int, (∃ n28 : Int, (∃ s4 : ByteArray, (∃ n29 : Int, (∃ s5 : ByteArray, (∃ b5 : Bool, (∃ es15 : List (List FV), (∃ es16 : List (List FV), (∃ n30 : Int, (∃ n31 : Int, ((Fn Tryd.prog 23 [(TV.one (AV.ptr 0 0 0 0))] [(Ob.g 59 [(AV.fz (FV.sl 1 es13)), (AV.fz (FV.int .i64 n24))])] (TV.agg [(AV.fz (FV.int .i64 n28)), (AV.fz (FV.str s4)), (AV.fz (FV.int .i64 n29)), (AV.fz (FV.str s5)), (AV.fz (FV.bool b5)), (AV.fz (FV.sl 1 es15)), (AV.fz (FV.sl 6 es16)), (AV.fz (FV.int .i64 n30)), (AV.fz (FV.int .i64 n31))]) [(Ob.g 59 [(AV.fz (FV.sl 1 es14)), (AV.fz (FV.int .i64 n27))])]) ∧ (((((List.length o) + (List.length [[(FV.int .i64 n28), (FV.str s4), (FV.int .i64 n29), (FV.str s5), (FV.bool b5), (FV.sl 1 es15), (FV.sl 6 es16), (FV.int .i64 n30), (FV.int .i64 n31)]])) * 120) ≤ 220000000000000) ∧ (∃ es17 : List (List FV), (∃ n32 : Int, ((Fn Tryd.prog 21 [(TV.one (AV.ptr 0 0 0 0))] [(Ob.g 59 [(AV.fz (FV.sl 1 es14)), (AV.fz (FV.int .i64 n27))])] (TV.tup []) [(Ob.g 59 [(AV.fz (FV.sl 1 es17)), (AV.fz (FV.int .i64 n32))])]) ∧ (token_Scan_L0 R RX es17 n32 (o ++ [[(FV.int .i64 n28), (FV.str s4), (FV.int .i64 n29), (FV.str s5), (FV.bool b5), (FV.sl 1 es15), (FV.sl 6 es16), (FV.int .i64 n30), (FV.int .i64 n31)]])))))))))))))))))))) ∧ ((b4 = false) → (∃ n33 : Int, (∃ n34 : Int, (∃ es18 : List (List FV), ((FnDf Tryd.prog 20 [(TV.one (AV.ptr 0 0 0 0)), (TV.one (AV.ptr 1 0 0 0)), (TV.one (AV.ptr 2 0 0 0))] [(Ob.g 24 [(AV.ofl 9 3)]), (Ob.g 3 [(AV.fz (FV.int .i64 0))]), (Ob.g 25 [(AV.fz (FV.int .i64 0))]), (Ob.f 0 9 o)] none [(Ob.g 24 [(AV.ofl 9 3)]), (Ob.g 3 [(AV.fz (FV.int .i64 n33))]), (Ob.g 25 [(AV.fz (FV.int .i64 n34))]), (Ob.f 0 9 es18)]) ∧ (R (TV.tup [(false, [(AV.fz (FV.sl 9 es18))]), (false, [(AV.fz (FV.int .i64 n33))]), (false, [(AV.fz (FV.int .i64 n34))])]) [])))))))))))
theorem token_Scan_l0 {R : TV → List Ob → Prop} {RX : FV → List Ob → Prop} {es : List (List FV)} {n1 : Int} {o : List (List FV)} (h : token_Scan_R0 R RX es n1 o) : token_Scan_L0 R RX es n1 o :=
  LoopAtD.by_tr (by kernel_rfl) (by kernel_rfl) h
def token_Scan_H (R : TV → List Ob → Prop) (RX : FV → List Ob → Prop) (tx : List (List FV)) : Prop :=
  (∃ n24 : Int, ((Fn Tryd.prog 17 [(TV.one (AV.fz (FV.sl 1 tx))), (TV.one (AV.fz (FV.fn 18 [])))] [] (TV.one (AV.fz (FV.int .i64 n24))) []) ∧ ((((decide ((0 : Int) ≤ n24)) = true) → (R (TV.tup [(false, [(AV.fz (FV.sl 9 ([] : List (List FV))))]), (false, [(AV.fz (FV.int .i64 n24))]), (false, [(AV.fz (FV.int .i64 1))])]) [])) ∧ (((decide ((0 : Int) ≤ n24)) = false) → (∃ es13 : List (List FV), (∃ n25 : Int, ((Fn Tryd.prog 21 [(TV.one (AV.ptr 0 0 0 0))] [(Ob.g 59 [(AV.fz (FV.sl 1 tx)), (AV.fz (FV.int .i64 0))])] (TV.tup []) [(Ob.g 59 [(AV.fz (FV.sl 1 es13)), (AV.fz (FV.int .i64 n25))])]) ∧ (token_Scan_L0 R RX es13 n25 ([] : List (List FV))))))))))
theorem token_Scan_fn (tx : List (List FV)) {r : TV} {h : List Ob} (H : token_Scan_H (fun r' h' => r' = r ∧ Wk h' h) (fun _ _ => False) tx) : Fn Tryd.prog 8 [(TV.one (AV.fz (FV.sl 1 tx)))] [] r h :=
  Fn.by_trD (M := (modeX [] [(22, [(Sig.mk 1 [(false, [(AT.k CK.bool)])] [(OT.g 59 [(AT.k (CK.sl 1)), (AT.k (CK.int .i64))])] 0)]), (21, [(Sig.mk 1 [] [(OT.g 59 [(AT.k (CK.sl 1)), (AT.k (CK.int .i64))])] 0)]), (23, [(Sig.mk 1 [(true, [(AT.k (CK.int .i64)), (AT.k CK.str), (AT.k (CK.int .i64)), (AT.k CK.str), (AT.k CK.bool), (AT.k (CK.sl 1)), (AT.k (CK.sl 6)), (AT.k (CK.int .i64)), (AT.k (CK.int .i64))])] [(OT.g 59 [(AT.k (CK.sl 1)), (AT.k (CK.int .i64))])] 0)]), (20, [(Sig.mk 3 [] [(OT.g 24 [(AT.a (AV.nsl 9))]), (OT.g 3 [(AT.k (CK.int .i64))]), (OT.g 25 [(AT.k (CK.int .i64))])] 0), (Sig.mk 4 [] [(OT.g 24 [(AT.a (AV.ofl 9 3))]), (OT.g 3 [(AT.k (CK.int .i64))]), (OT.g 25 [(AT.k (CK.int .i64))]), (OT.f 0 9)] 0)])] [23] 0 (fun _ _ => False))) (lv := token_Scan_lv) (own := none) (n := 3) (F := Tryd.f8) (by kernel_rfl) (by kernel_rfl) (by first | decide | simp) (by kernel_rfl) H
def ixScal_lv : List Nat → Keep := lvOf [([0, 1, 0, 1], ⟨387, 0, [], false, false⟩)]
def ixScal_S0 (s : List (List FV)) (i : Int) : St := (St.mk [(TV.one (AV.fz (FV.sl 1 s))), (TV.one (AV.fz (FV.fn 18 []))), TV.und, TV.und, TV.und, TV.und, TV.und, (TV.one (AV.fz (FV.int .i64 (((List.length s) : Nat) : Int)))), (TV.one (AV.fz (FV.int .i64 i))), TV.und, TV.und, TV.und, TV.und, TV.und, TV.und, TV.und, TV.und, TV.und, TV.und] [])
def ixScal_L0 (R : TV → List Ob → Prop) (s : List (List FV)) (i : Int) : Prop := LoopAt Tryd.prog (modeOf [] []) ixScal_lv Tryd.f17 none R [1, 0, 1, 0] (ixScal_S0 s i)
def ixScal_R0 (R : TV → List Ob → Prop) (s : List (List FV)) (i : Int) : Prop :=
  ((((decide (i < (((List.length s) : Nat) : Int))) = true) → (((0 : Int) ≤ i) ∧ (∃ n2 : Int, (((s)[(Int.toNat i)]? = (some [(FV.int .i64 n2)])) ∧ (∃ b2 : Bool, ((Fn Tryd.prog 18 [(TV.one (AV.fz (FV.int .i64 n2)))] [] (TV.one (AV.fz (FV.bool b2))) []) ∧ (((b2 = true) → (R (TV.one (AV.fz (FV.int .i64 i))) [])) ∧ ((b2 = false) → (ixScal_L0 R s (IntKind.wrap .i64 (i + 1))))))))))) ∧ (((decide (i < (((List.length s) : Nat) : Int))) = false) → (R (TV.one (AV.fz (FV.int .i64 (-1)))) [])))
theorem ixScal_l0 {R : TV → List Ob → Prop} {s : List (List FV)} {i : Int} (h : ixScal_R0 R s i) : ixScal_L0 R s i :=
  LoopAt.by_tr (by kernel_rfl) (by kernel_rfl) h
def ixScal_H (R : TV → List Ob → Prop) (s : List (List FV)) : Prop :=
  (ixScal_L0 R s 0)
theorem ixScal_fn (s : List (List FV)) {r : TV} {h : List Ob} (H : ixScal_H (fun r' h' => r' = r ∧ h' = h) s) : Fn Tryd.prog 17 [(TV.one (AV.fz (FV.sl 1 s))), (TV.one (AV.fz (FV.fn 18 [])))] [] r h :=
  Fn.by_tr (M := (modeOf [] [])) (lv := ixScal_lv) (own := none) (F := Tryd.f17) (by kernel_rfl) (by kernel_rfl) (by first | decide | simp) (fun _ _ h => h) (by kernel_rfl) H
end Go.Proofs.YtejefchehdifhaaDoor.Ev
end
section
set_option linter.unusedVariables false
set_option linter.unusedSimpArgs false
namespace Go.Proofs.YtejefchehdifhaaDoor.Ev
open Go
theorem Ty.inv_int {P : Program} {t : TypeId} {k : IntKind} {fs : List FV} (h : Ty P t fs) (hu : P.underlying t = some (.int k)) : ∃ n, fs = [.int k n] ∧ k.min ≤ n ∧ n ≤ k.max := by
  cases h <;> simp_all
theorem Ty.inv_sl {P : Program} {t e : TypeId} {fs : List FV} (h : Ty P t fs) (hu : P.underlying t = some (.slice e)) : ∃ es, fs = [.sl (P.cellsOf e) es] ∧ es.length * P.bytesOf e ≤ reachBytes ∧ ∀ x ∈ es, Ty P e x := by
  cases h <;> simp_all
theorem Ty.inv_ints {P : Program} {t e : TypeId} {k : IntKind} {fs : List FV} (h : Ty P t fs) (hu : P.underlying t = some (.slice e)) (he : P.underlying e = some (.int k)) (hc : P.cellsOf e = 1) :
    ∃ l, fs = [.sl 1 (ints k l)] ∧ (∀ x ∈ l, k.min ≤ x ∧ x ≤ k.max) ∧ l.length * P.bytesOf e ≤ reachBytes := by
  obtain ⟨es, rfl, h1, h2⟩ := h.inv_sl hu
  have : ∃ l, es = ints k l ∧ ∀ x ∈ l, k.min ≤ x ∧ x ≤ k.max := by
    clear h1 h
    induction es with
    | nil => exact ⟨[], rfl, by simp⟩
    | cons x es ih =>
      obtain ⟨l, rfl, h3⟩ := ih fun y hy => h2 y (List.mem_cons_of_mem _ hy)
      obtain ⟨n, rfl, h4, h5⟩ := (h2 x List.mem_cons_self).inv_int he
      exact ⟨n :: l, by simp [ints], fun y hy => by
        rcases List.mem_cons.1 hy with rfl | hy
        · exact ⟨h4, h5⟩
        · exact h3 y hy⟩
  obtain ⟨l, rfl, h3⟩ := this
  exact ⟨l, by rw [hc], h3, by rwa [ints_len] at h1⟩
end Go.Proofs.YtejefchehdifhaaDoor.Ev
end
section
set_option linter.unusedVariables false
set_option linter.unusedSimpArgs false
namespace Go.Proofs.YtejefchehdifhaaDoor.Ev
open Go
inductive Dt where
  | mk (kind : Int) (text : ByteArray) (neg : Bool) (limbs : List Int) (list : List Dt) (at_ : Int)
mutual
def Dt.row : Dt → List FV
  | .mk k t n l ds a => [.int .i64 k, .str t, .bool n, .sl 1 (ints .u32 l), .sl 6 (Dt.rows ds), .int .i64 a]
def Dt.rows : List Dt → List (List FV)
  | [] => []
  | d :: ds => d.row :: Dt.rows ds
end
end Go.Proofs.YtejefchehdifhaaDoor.Ev
end
section
set_option linter.unusedVariables false
set_option linter.unusedSimpArgs false
namespace Go.Proofs.YtejefchehdifhaaDoor.Ev
open Go
structure Tok where
  kind : Int
  name : List Int
  d : Dt
  at_ : Nat
def Tok.row (x : Tok) : List FV := [.int .i64 x.kind, .str (bytesOf x.name)] ++ x.d.row ++ [.int .i64 ((x.at_ : Nat) : Int)]
def lf (k : Int) (s : List Int) (n : Bool) (l : List Int) (a : Int) : Dt := .mk k (bytesOf s) n l [] a
abbrev lfR (k : Int) (s : List Int) (n : Bool) (l : List Int) (a : Int) : List FV := [.int .i64 k, .str (bytesOf s), .bool n, .sl 1 (ints .u32 l), .sl 6 ([] : List (List FV)), .int .i64 a]
theorem lf_row (k : Int) (s : List Int) (n : Bool) (l : List Int) (a : Int) : (lf k s n l a).row = lfR k s n l a := by simp [lf, Dt.row, Dt.rows]
def signP (r : List Int) : Int × List Int × Nat :=
  if pkL r 0 = 35 ∧ pkL r 1 = 44 ∧ pkL r 2 = 64 then (6, [117, 110, 115, 121, 110, 116, 97, 120, 45, 115, 112, 108, 105, 99, 105, 110, 103], 3)
  else if pkL r 0 = 35 ∧ pkL r 1 = 44 then (6, [117, 110, 115, 121, 110, 116, 97, 120], 2)
  else if pkL r 0 = 35 ∧ pkL r 1 = 39 then (6, [115, 121, 110, 116, 97, 120], 2)
  else if pkL r 0 = 35 ∧ pkL r 1 = 96 then (6, [113, 117, 97, 115, 105, 115, 121, 110, 116, 97, 120], 2)
  else if pkL r 0 = 35 ∧ pkL r 1 = 59 then (5, [], 2)
  else if pkL r 0 = 35 ∧ pkL r 1 = 40 then (3, [], 2)
  else if pkL r 0 = 44 ∧ pkL r 1 = 64 then (6, [117, 110, 113, 117, 111, 116, 101, 45, 115, 112, 108, 105, 99, 105, 110, 103], 2)
  else if pkL r 0 = 44 then (6, [117, 110, 113, 117, 111, 116, 101], 1)
  else if pkL r 0 = 39 then (6, [113, 117, 111, 116, 101], 1)
  else if pkL r 0 = 96 then (6, [113, 117, 97, 115, 105, 113, 117, 111, 116, 101], 1)
  else if pkL r 0 = 40 then (1, [], 1)
  else if pkL r 0 = 41 then (2, [], 1)
  else if pkL r 0 = 46 ∧ (pkL r 1 < 0 ∨ endsB (pkL r 1) = true) then (4, [], 1)
  else (0, [], 0)
def datV (f : Nat) (r : List Int) (k : Nat) : Option (Int × List Int × Bool × List Int × Nat) :=
  if pkL r 0 = 34 then (match strF f (r.drop 1) [] (k + 1) with
    | some (a, e) => if a.length ≤ 4096 then some (5, enc a, false, [], e) else none
    | none => none)
  else if pkL r 0 = 35 ∧ pkL r 1 = 92 then (if 0 ≤ chV (r.drop 2) then some (6, utfB (chV (r.drop 2)), false, [], k + 2 + chQ (r.drop 2)) else none)
  else if atomK (enc (r.take (untilN r))) ≠ 0 then some (atomK (enc (r.take (untilN r))), atomS (enc (r.take (untilN r))), atomN (enc (r.take (untilN r))), atomL (enc (r.take (untilN r))), k + untilN r) else none
def nextV (t : List Int) (p : Nat) : Option (Tok × Nat) :=
  if (signP (t.drop p)).2.2 ≠ 0 then some (⟨(signP (t.drop p)).1, (signP (t.drop p)).2.1, lf 0 [] false [] 0, p⟩, p + (signP (t.drop p)).2.2)
  else match datV (t.length + 1) (t.drop p) p with
    | some (k, s, n, l, e) => some (⟨7, [], lf k s n l p, p⟩, e)
    | none => none
abbrev datT (k : Int) (s : List Int) (n : Bool) (l : List Int) (b : Bool) : TV := .tup [(true, (lfR k s n l 0).map .fz), (false, [.fz (.bool b)])]
theorem exC1 (v : TV) (h : List Ob) : ∃ R : TV → List Ob → Prop, (∀ r' h', Cool 1 r' h' v h → R r' h') ∧ (fun r' h' => Cool 1 r' h' v h) = R := ⟨_, fun _ _ h => h, rfl⟩
theorem pkL_zero (x : Int) (r : List Int) : pkL (x :: r) 0 = x := by rw [pkL_lt (by simp)]; rfl
theorem pkL_succ (x : Int) (r : List Int) (i : Nat) : pkL (x :: r) (i + 1) = pkL r i := by
  unfold pkL
  rw [List.length_cons]
  by_cases h : i < r.length
  · rw [if_pos (by omega), if_pos h]; rfl
  · rw [if_neg (by omega), if_neg h]
theorem hereB_1 (c : Int) (r : List Int) (hc : 0 ≤ c) : hereB [c] r = decide (pkL r 0 = c) := by
  cases r with
  | nil => unfold hereB; rw [pkL_ge (by simp)]; simp; omega
  | cons x r => unfold hereB hereB; rw [pkL_zero, Bool.and_true]
theorem hereB_2 (c d : Int) (r : List Int) (hc : 0 ≤ c) (hd : 0 ≤ d) : hereB [c, d] r = decide (pkL r 0 = c ∧ pkL r 1 = d) := by
  cases r with
  | nil => unfold hereB; rw [pkL_ge (by simp)]; simp; omega
  | cons x r =>
    unfold hereB
    rw [hereB_1 d r hd, pkL_zero, pkL_succ, ← Bool.decide_and]
theorem hereB_3 (c d e : Int) (r : List Int) (hc : 0 ≤ c) (hd : 0 ≤ d) (he : 0 ≤ e) : hereB [c, d, e] r = decide (pkL r 0 = c ∧ pkL r 1 = d ∧ pkL r 2 = e) := by
  cases r with
  | nil => unfold hereB; rw [pkL_ge (by simp)]; simp; omega
  | cons x r =>
    unfold hereB
    rw [hereB_2 d e r hd he, pkL_zero, pkL_succ, pkL_succ, ← Bool.decide_and]
theorem pkL_pos {r : List Int} {i : Nat} (h : 0 ≤ pkL r i) : i < r.length := by
  unfold pkL at h
  split at h
  · assumption
  · omega
theorem enc_le {t : List Int} (hlen : t.length ≤ 4000000) (p n : Nat) : (enc ((t.drop p).take n)).length ≤ 16777216 := by
  have h := enc_len ((t.drop p).take n)
  have h2 : ((t.drop p).take n).length ≤ t.length := by simp; omega
  omega
theorem sDatum_ok (t : List Int) (hs : Scals t) (hlen : t.length ≤ 4000000) (p : Nat) (hp : p < t.length) :
    ∃ k s n l b q, Fn Tryd.prog 37 [scP] (scM t p) (datT k s n l b) (scM t q) ∧ datV (t.length + 1) (t.drop p) p = if b = true then some (k, s, n, l, q) else none := by
  have hH1 := sHere_ok t hs (by omega) p (by omega) [34] (by intro x hx; simp at hx; omega) (by simp)
  have hH2 := sHere_ok t hs (by omega) p (by omega) [35, 92] (by intro x hx; simp at hx; omega) (by simp)
  rw [show bytesOf [34] = ByteArray.mk #[34] from by decide +kernel, hereB_1 _ _ (by omega)] at hH1
  rw [show bytesOf [35, 92] = ByteArray.mk #[35, 92] from by decide +kernel, hereB_2 _ _ _ (by omega) (by omega)] at hH2
  unfold datV
  by_cases c1 : pkL (t.drop p) 0 = 34
  · have hS := sStr_ok t hs (by omega) (p + 1) (by omega)
    rw [if_pos c1, List.drop_drop]
    rw [decide_eq_true c1] at hH1
    have key : ∀ (a : List Int) (b : Bool) (q : Nat), Fn Tryd.prog 46 [scP] (scM t (p + 1)) (.tup [(false, [.fz (.str (bytesOf a))]), (false, [.fz (.bool b)])]) (scM t q) →
        Fn Tryd.prog 37 [scP] (scM t p) (datT 5 a false [] b) (scM t q) := by
      intro a b q hF
      refine token_scanner_datumO_fc _ _ ?_
      obtain ⟨R, hR, hRe⟩ := exC1 (datT 5 a false [] b) (scM t q); rw [hRe]; clear hRe
      unfold token_scanner_datumO_H
      refine ⟨_, _, _, hH1, fun _ => ⟨_, _, _, _, ?_, hR _ _ ⟨rfl, Wk.refl _, rfl⟩⟩, fun h => absurd h (by decide)⟩
      rw [w64 (by omega) (by omega)]
      exact hF
    cases hst : strF (t.length + 1) (t.drop (p + 1)) [] (p + 1) with
    | none =>
      rw [hst] at hS
      exact ⟨5, [], false, [], false, _, key _ _ _ hS, rfl⟩
    | some ae =>
      obtain ⟨a, e⟩ := ae
      rw [hst, strP_some _ _ _ _ _ _ hst] at hS
      refine ⟨5, enc a, false, [], decide (a.length ≤ 4096), e, key _ _ _ hS, ?_⟩
      simp only
      by_cases hl : a.length ≤ 4096
      · rw [if_pos hl, decide_eq_true hl, if_pos rfl]
      · rw [if_neg hl, decide_eq_false hl, if_neg (by simp)]
  · rw [if_neg c1]
    rw [decide_eq_false c1] at hH1
    by_cases c2 : pkL (t.drop p) 0 = 35 ∧ pkL (t.drop p) 1 = 92
    · rw [if_pos c2]
      rw [decide_eq_true c2] at hH2
      have h2 : p + 2 ≤ t.length := by
        have := pkL_pos (r := t.drop p) (i := 1) (by omega)
        rw [List.length_drop] at this
        omega
      have hC := sChar_ok t hs hlen (p + 2) h2
      refine ⟨6, chX (t.drop (p + 2)), false, [], decide (0 ≤ chV (t.drop (p + 2))), p + 2 + chQ (t.drop (p + 2)), ?_, ?_⟩
      · refine token_scanner_datumO_fc _ _ ?_
        obtain ⟨R, hR, hRe⟩ := exC1 (datT 6 (chX (t.drop (p + 2))) false [] (decide (0 ≤ chV (t.drop (p + 2))))) (scM t (p + 2 + chQ (t.drop (p + 2)))); rw [hRe]; clear hRe
        unfold token_scanner_datumO_H
        refine ⟨_, _, _, hH1, fun h => absurd h (by decide), fun _ => ⟨_, _, _, hH2, fun _ => ⟨_, _, _, _, ?_, hR _ _ ⟨rfl, Wk.refl _, rfl⟩⟩, fun h => absurd h (by decide)⟩⟩
        rw [w64 (by omega) (by omega)]
        exact hC
      · rw [List.drop_drop]
        by_cases hv : 0 ≤ chV (t.drop (p + 2))
        · rw [if_pos hv, decide_eq_true hv, if_pos rfl]
          have : chX (t.drop (p + 2)) = utfB (chV (t.drop (p + 2))) := by
            unfold chX
            rw [if_neg (fun e => by rw [e] at hv; exact absurd hv (by decide)), if_pos hv]
          rw [this]
        · rw [if_neg hv, decide_eq_false hv, if_neg (by simp)]
    · rw [if_neg c2]
      rw [decide_eq_false c2] at hH2
      have hW := sWhile_ok t hs (by omega) p 0 (by omega)
      rw [Nat.add_zero, Nat.zero_add] at hW
      have hbB : Bytes (enc ((t.drop p).take (untilN (t.drop p)))) := enc_bytes ((hs.drop p).take _)
      have hA := tAtom_ok (enc ((t.drop p).take (untilN (t.drop p)))) hbB (enc_le hlen _ _)
      refine ⟨atomK (enc ((t.drop p).take (untilN (t.drop p)))), atomS (enc ((t.drop p).take (untilN (t.drop p)))), atomN (enc ((t.drop p).take (untilN (t.drop p)))), atomL (enc ((t.drop p).take (untilN (t.drop p)))), decide (atomK (enc ((t.drop p).take (untilN (t.drop p)))) ≠ 0), p + untilN (t.drop p), ?_, ?_⟩
      · refine token_scanner_datumO_fc _ _ ?_
        obtain ⟨R, hR, hRe⟩ := exC1 (datT (atomK (enc ((t.drop p).take (untilN (t.drop p))))) (atomS (enc ((t.drop p).take (untilN (t.drop p))))) (atomN (enc ((t.drop p).take (untilN (t.drop p))))) (atomL (enc ((t.drop p).take (untilN (t.drop p))))) (decide (atomK (enc ((t.drop p).take (untilN (t.drop p)))) ≠ 0))) (scM t (p + untilN (t.drop p))); rw [hRe]; clear hRe
        unfold token_scanner_datumO_H
        exact ⟨_, _, _, hH1, fun h => absurd h (by decide), fun _ => ⟨_, _, _, hH2, fun h => absurd h (by decide), fun _ => ⟨_, _, _, hW, _, _, _, _, _, _, _, hA, hR _ _ ⟨rfl, Wk.refl _, rfl⟩⟩⟩⟩
      · by_cases hk : atomK (enc ((t.drop p).take (untilN (t.drop p)))) ≠ 0
        · rw [if_pos hk, decide_eq_true hk, if_pos rfl]
        · rw [if_neg hk, decide_eq_false hk, if_neg (by simp)]
theorem sNext_H (t : List Int) (hs : Scals t) (hlen : t.length ≤ 4000000) (p : Nat) (hp : p < t.length) (R : TV → List Ob → Prop) (RX : FV → List Ob → Prop)
    (hR : ∀ tok q, nextV t p = some (tok, q) → ∀ r' h', Cool 1 r' h' (.agg (tok.row.map .fz)) (scM t q) → R r' h')
    (hX : nextV t p = none → RX (.ifv 55 true [.int .i64 ((p : Nat) : Int)]) (shH (scM t p))) :
    token_scanner_nextO_H R RX (ints .i64 t) ((p : Nat) : Int) := by
  have hpL : ∀ i, pkL (t.drop p) i = pkL t (p + i) := fun i => pkL_drop t p i
  have sg : ∀ (k : Int) (nm : List Int) (n : Nat), signP (t.drop p) = (k, nm, n) → n ≠ 0 → ∀ r' h', Cool 1 r' h' (.agg ([.int .i64 k, .str (bytesOf nm), .int .i64 0, .str (ByteArray.mk #[]), .bool false, .sl 1 ([] : List (List FV)), .sl 6 ([] : List (List FV)), .int .i64 0, .int .i64 ((p : Nat) : Int)].map .fz)) (scM t (p + n)) → R r' h' := by
    intro k nm n hsg hn r' h' hc
    have : nextV t p = some (⟨k, nm, lf 0 [] false [] 0, p⟩, p + n) := by
      unfold nextV; rw [hsg]; simp only; rw [if_pos hn]
    refine hR _ _ this r' h' ?_
    unfold Tok.row
    rw [lf_row]
    exact hc
  have kinds_ : ∀ (c : Int), pkL (t.drop p) 0 = c → pkL (t.drop p) 0 = c := fun _ h => h
  unfold token_scanner_nextO_H
  have w0 := sHere_ok t hs (by omega) p (by omega) [35, 44, 64] (by intro x hx; simp at hx; omega) (by simp)
  rw [show bytesOf [35, 44, 64] = ByteArray.mk #[35, 44, 64] from by decide +kernel, hereB_3 35 44 64 _ (by omega) (by omega) (by omega)] at w0
  refine token_scanner_nextO_l0 ?_
  unfold token_scanner_nextO_R0
  refine ⟨fun _ => ⟨⟨by omega, by omega⟩, ByteArray.mk #[35, 44, 64], 6, ByteArray.mk #[117, 110, 115, 121, 110, 116, 97, 120, 45, 115, 112, 108, 105, 99, 105, 110, 103], rfl, _, _, _, w0, fun h => ?_, fun h => ?_⟩, fun h => absurd h (by decide)⟩
  · have h := of_decide_eq_true h
    refine sg 6 [117, 110, 115, 121, 110, 116, 97, 120, 45, 115, 112, 108, 105, 99, 105, 110, 103] 3 ?_ (by decide) _ _ ?_
    · unfold signP
      first | (simp only [h]; rfl) | (simp [h]; done) | (simp [h]; omega)
    · rw [show bytesOf [117, 110, 115, 121, 110, 116, 97, 120, 45, 115, 112, 108, 105, 99, 105, 110, 103] = ByteArray.mk #[117, 110, 115, 121, 110, 116, 97, 120, 45, 115, 112, 108, 105, 99, 105, 110, 103] from by decide +kernel, w64 (by have : ((ByteArray.size (ByteArray.mk #[35, 44, 64]) : Nat) : Int) = 3 := rfl; omega) (by have : ((ByteArray.size (ByteArray.mk #[35, 44, 64]) : Nat) : Int) = 3 := rfl; omega)]
      exact ⟨rfl, Wk.refl _, rfl⟩
  have g0 := of_decide_eq_false h
  clear h w0
  rw [w64 (by omega) (by omega)]
  have w1 := sHere_ok t hs (by omega) p (by omega) [35, 40] (by intro x hx; simp at hx; omega) (by simp)
  rw [show bytesOf [35, 40] = ByteArray.mk #[35, 40] from by decide +kernel, hereB_2 35 40 _ (by omega) (by omega)] at w1
  refine token_scanner_nextO_l0 ?_
  unfold token_scanner_nextO_R0
  refine ⟨fun _ => ⟨⟨by omega, by omega⟩, ByteArray.mk #[35, 40], 3, ByteArray.mk #[], rfl, _, _, _, w1, fun h => ?_, fun h => ?_⟩, fun h => absurd h (by decide)⟩
  · have h := of_decide_eq_true h
    refine sg 3 [] 2 ?_ (by decide) _ _ ?_
    · unfold signP
      first | (simp only [h]; rfl) | (simp [h]; done) | (simp [h]; omega)
    · rw [show bytesOf [] = ByteArray.mk #[] from by decide +kernel, w64 (by have : ((ByteArray.size (ByteArray.mk #[35, 40]) : Nat) : Int) = 2 := rfl; omega) (by have : ((ByteArray.size (ByteArray.mk #[35, 40]) : Nat) : Int) = 2 := rfl; omega)]
      exact ⟨rfl, Wk.refl _, rfl⟩
  have g1 := of_decide_eq_false h
  clear h w1
  rw [w64 (by omega) (by omega)]
  have w2 := sHere_ok t hs (by omega) p (by omega) [35, 59] (by intro x hx; simp at hx; omega) (by simp)
  rw [show bytesOf [35, 59] = ByteArray.mk #[35, 59] from by decide +kernel, hereB_2 35 59 _ (by omega) (by omega)] at w2
  refine token_scanner_nextO_l0 ?_
  unfold token_scanner_nextO_R0
  refine ⟨fun _ => ⟨⟨by omega, by omega⟩, ByteArray.mk #[35, 59], 5, ByteArray.mk #[], rfl, _, _, _, w2, fun h => ?_, fun h => ?_⟩, fun h => absurd h (by decide)⟩
  · have h := of_decide_eq_true h
    refine sg 5 [] 2 ?_ (by decide) _ _ ?_
    · unfold signP
      first | (simp only [h]; rfl) | (simp [h]; done) | (simp [h]; omega)
    · rw [show bytesOf [] = ByteArray.mk #[] from by decide +kernel, w64 (by have : ((ByteArray.size (ByteArray.mk #[35, 59]) : Nat) : Int) = 2 := rfl; omega) (by have : ((ByteArray.size (ByteArray.mk #[35, 59]) : Nat) : Int) = 2 := rfl; omega)]
      exact ⟨rfl, Wk.refl _, rfl⟩
  have g2 := of_decide_eq_false h
  clear h w2
  rw [w64 (by omega) (by omega)]
  have w3 := sHere_ok t hs (by omega) p (by omega) [35, 39] (by intro x hx; simp at hx; omega) (by simp)
  rw [show bytesOf [35, 39] = ByteArray.mk #[35, 39] from by decide +kernel, hereB_2 35 39 _ (by omega) (by omega)] at w3
  refine token_scanner_nextO_l0 ?_
  unfold token_scanner_nextO_R0
  refine ⟨fun _ => ⟨⟨by omega, by omega⟩, ByteArray.mk #[35, 39], 6, ByteArray.mk #[115, 121, 110, 116, 97, 120], rfl, _, _, _, w3, fun h => ?_, fun h => ?_⟩, fun h => absurd h (by decide)⟩
  · have h := of_decide_eq_true h
    refine sg 6 [115, 121, 110, 116, 97, 120] 2 ?_ (by decide) _ _ ?_
    · unfold signP
      first | (simp only [h]; rfl) | (simp [h]; done) | (simp [h]; omega)
    · rw [show bytesOf [115, 121, 110, 116, 97, 120] = ByteArray.mk #[115, 121, 110, 116, 97, 120] from by decide +kernel, w64 (by have : ((ByteArray.size (ByteArray.mk #[35, 39]) : Nat) : Int) = 2 := rfl; omega) (by have : ((ByteArray.size (ByteArray.mk #[35, 39]) : Nat) : Int) = 2 := rfl; omega)]
      exact ⟨rfl, Wk.refl _, rfl⟩
  have g3 := of_decide_eq_false h
  clear h w3
  rw [w64 (by omega) (by omega)]
  have w4 := sHere_ok t hs (by omega) p (by omega) [35, 96] (by intro x hx; simp at hx; omega) (by simp)
  rw [show bytesOf [35, 96] = ByteArray.mk #[35, 96] from by decide +kernel, hereB_2 35 96 _ (by omega) (by omega)] at w4
  refine token_scanner_nextO_l0 ?_
  unfold token_scanner_nextO_R0
  refine ⟨fun _ => ⟨⟨by omega, by omega⟩, ByteArray.mk #[35, 96], 6, ByteArray.mk #[113, 117, 97, 115, 105, 115, 121, 110, 116, 97, 120], rfl, _, _, _, w4, fun h => ?_, fun h => ?_⟩, fun h => absurd h (by decide)⟩
  · have h := of_decide_eq_true h
    refine sg 6 [113, 117, 97, 115, 105, 115, 121, 110, 116, 97, 120] 2 ?_ (by decide) _ _ ?_
    · unfold signP
      first | (simp only [h]; rfl) | (simp [h]; done) | (simp [h]; omega)
    · rw [show bytesOf [113, 117, 97, 115, 105, 115, 121, 110, 116, 97, 120] = ByteArray.mk #[113, 117, 97, 115, 105, 115, 121, 110, 116, 97, 120] from by decide +kernel, w64 (by have : ((ByteArray.size (ByteArray.mk #[35, 96]) : Nat) : Int) = 2 := rfl; omega) (by have : ((ByteArray.size (ByteArray.mk #[35, 96]) : Nat) : Int) = 2 := rfl; omega)]
      exact ⟨rfl, Wk.refl _, rfl⟩
  have g4 := of_decide_eq_false h
  clear h w4
  rw [w64 (by omega) (by omega)]
  have w5 := sHere_ok t hs (by omega) p (by omega) [35, 44] (by intro x hx; simp at hx; omega) (by simp)
  rw [show bytesOf [35, 44] = ByteArray.mk #[35, 44] from by decide +kernel, hereB_2 35 44 _ (by omega) (by omega)] at w5
  refine token_scanner_nextO_l0 ?_
  unfold token_scanner_nextO_R0
  refine ⟨fun _ => ⟨⟨by omega, by omega⟩, ByteArray.mk #[35, 44], 6, ByteArray.mk #[117, 110, 115, 121, 110, 116, 97, 120], rfl, _, _, _, w5, fun h => ?_, fun h => ?_⟩, fun h => absurd h (by decide)⟩
  · have h := of_decide_eq_true h
    refine sg 6 [117, 110, 115, 121, 110, 116, 97, 120] 2 ?_ (by decide) _ _ ?_
    · unfold signP
      first | (simp only [h]; rfl) | (simp [h]; done) | (simp [h]; omega)
    · rw [show bytesOf [117, 110, 115, 121, 110, 116, 97, 120] = ByteArray.mk #[117, 110, 115, 121, 110, 116, 97, 120] from by decide +kernel, w64 (by have : ((ByteArray.size (ByteArray.mk #[35, 44]) : Nat) : Int) = 2 := rfl; omega) (by have : ((ByteArray.size (ByteArray.mk #[35, 44]) : Nat) : Int) = 2 := rfl; omega)]
      exact ⟨rfl, Wk.refl _, rfl⟩
  have g5 := of_decide_eq_false h
  clear h w5
  rw [w64 (by omega) (by omega)]
  have w6 := sHere_ok t hs (by omega) p (by omega) [44, 64] (by intro x hx; simp at hx; omega) (by simp)
  rw [show bytesOf [44, 64] = ByteArray.mk #[44, 64] from by decide +kernel, hereB_2 44 64 _ (by omega) (by omega)] at w6
  refine token_scanner_nextO_l0 ?_
  unfold token_scanner_nextO_R0
  refine ⟨fun _ => ⟨⟨by omega, by omega⟩, ByteArray.mk #[44, 64], 6, ByteArray.mk #[117, 110, 113, 117, 111, 116, 101, 45, 115, 112, 108, 105, 99, 105, 110, 103], rfl, _, _, _, w6, fun h => ?_, fun h => ?_⟩, fun h => absurd h (by decide)⟩
  · have h := of_decide_eq_true h
    refine sg 6 [117, 110, 113, 117, 111, 116, 101, 45, 115, 112, 108, 105, 99, 105, 110, 103] 2 ?_ (by decide) _ _ ?_
    · unfold signP
      first | (simp only [h]; rfl) | (simp [h]; done) | (simp [h]; omega)
    · rw [show bytesOf [117, 110, 113, 117, 111, 116, 101, 45, 115, 112, 108, 105, 99, 105, 110, 103] = ByteArray.mk #[117, 110, 113, 117, 111, 116, 101, 45, 115, 112, 108, 105, 99, 105, 110, 103] from by decide +kernel, w64 (by have : ((ByteArray.size (ByteArray.mk #[44, 64]) : Nat) : Int) = 2 := rfl; omega) (by have : ((ByteArray.size (ByteArray.mk #[44, 64]) : Nat) : Int) = 2 := rfl; omega)]
      exact ⟨rfl, Wk.refl _, rfl⟩
  have g6 := of_decide_eq_false h
  clear h w6
  rw [w64 (by omega) (by omega)]
  have w7 := sHere_ok t hs (by omega) p (by omega) [40] (by intro x hx; simp at hx; omega) (by simp)
  rw [show bytesOf [40] = ByteArray.mk #[40] from by decide +kernel, hereB_1 40 _ (by omega)] at w7
  refine token_scanner_nextO_l0 ?_
  unfold token_scanner_nextO_R0
  refine ⟨fun _ => ⟨⟨by omega, by omega⟩, ByteArray.mk #[40], 1, ByteArray.mk #[], rfl, _, _, _, w7, fun h => ?_, fun h => ?_⟩, fun h => absurd h (by decide)⟩
  · have h := of_decide_eq_true h
    refine sg 1 [] 1 ?_ (by decide) _ _ ?_
    · unfold signP
      first | (simp only [h]; rfl) | (simp [h]; done) | (simp [h]; omega)
    · rw [show bytesOf [] = ByteArray.mk #[] from by decide +kernel, w64 (by have : ((ByteArray.size (ByteArray.mk #[40]) : Nat) : Int) = 1 := rfl; omega) (by have : ((ByteArray.size (ByteArray.mk #[40]) : Nat) : Int) = 1 := rfl; omega)]
      exact ⟨rfl, Wk.refl _, rfl⟩
  have g7 := of_decide_eq_false h
  clear h w7
  rw [w64 (by omega) (by omega)]
  have w8 := sHere_ok t hs (by omega) p (by omega) [41] (by intro x hx; simp at hx; omega) (by simp)
  rw [show bytesOf [41] = ByteArray.mk #[41] from by decide +kernel, hereB_1 41 _ (by omega)] at w8
  refine token_scanner_nextO_l0 ?_
  unfold token_scanner_nextO_R0
  refine ⟨fun _ => ⟨⟨by omega, by omega⟩, ByteArray.mk #[41], 2, ByteArray.mk #[], rfl, _, _, _, w8, fun h => ?_, fun h => ?_⟩, fun h => absurd h (by decide)⟩
  · have h := of_decide_eq_true h
    refine sg 2 [] 1 ?_ (by decide) _ _ ?_
    · unfold signP
      first | (simp only [h]; rfl) | (simp [h]; done) | (simp [h]; omega)
    · rw [show bytesOf [] = ByteArray.mk #[] from by decide +kernel, w64 (by have : ((ByteArray.size (ByteArray.mk #[41]) : Nat) : Int) = 1 := rfl; omega) (by have : ((ByteArray.size (ByteArray.mk #[41]) : Nat) : Int) = 1 := rfl; omega)]
      exact ⟨rfl, Wk.refl _, rfl⟩
  have g8 := of_decide_eq_false h
  clear h w8
  rw [w64 (by omega) (by omega)]
  have w9 := sHere_ok t hs (by omega) p (by omega) [39] (by intro x hx; simp at hx; omega) (by simp)
  rw [show bytesOf [39] = ByteArray.mk #[39] from by decide +kernel, hereB_1 39 _ (by omega)] at w9
  refine token_scanner_nextO_l0 ?_
  unfold token_scanner_nextO_R0
  refine ⟨fun _ => ⟨⟨by omega, by omega⟩, ByteArray.mk #[39], 6, ByteArray.mk #[113, 117, 111, 116, 101], rfl, _, _, _, w9, fun h => ?_, fun h => ?_⟩, fun h => absurd h (by decide)⟩
  · have h := of_decide_eq_true h
    refine sg 6 [113, 117, 111, 116, 101] 1 ?_ (by decide) _ _ ?_
    · unfold signP
      first | (simp only [h]; rfl) | (simp [h]; done) | (simp [h]; omega)
    · rw [show bytesOf [113, 117, 111, 116, 101] = ByteArray.mk #[113, 117, 111, 116, 101] from by decide +kernel, w64 (by have : ((ByteArray.size (ByteArray.mk #[39]) : Nat) : Int) = 1 := rfl; omega) (by have : ((ByteArray.size (ByteArray.mk #[39]) : Nat) : Int) = 1 := rfl; omega)]
      exact ⟨rfl, Wk.refl _, rfl⟩
  have g9 := of_decide_eq_false h
  clear h w9
  rw [w64 (by omega) (by omega)]
  have w10 := sHere_ok t hs (by omega) p (by omega) [96] (by intro x hx; simp at hx; omega) (by simp)
  rw [show bytesOf [96] = ByteArray.mk #[96] from by decide +kernel, hereB_1 96 _ (by omega)] at w10
  refine token_scanner_nextO_l0 ?_
  unfold token_scanner_nextO_R0
  refine ⟨fun _ => ⟨⟨by omega, by omega⟩, ByteArray.mk #[96], 6, ByteArray.mk #[113, 117, 97, 115, 105, 113, 117, 111, 116, 101], rfl, _, _, _, w10, fun h => ?_, fun h => ?_⟩, fun h => absurd h (by decide)⟩
  · have h := of_decide_eq_true h
    refine sg 6 [113, 117, 97, 115, 105, 113, 117, 111, 116, 101] 1 ?_ (by decide) _ _ ?_
    · unfold signP
      first | (simp only [h]; rfl) | (simp [h]; done) | (simp [h]; omega)
    · rw [show bytesOf [113, 117, 97, 115, 105, 113, 117, 111, 116, 101] = ByteArray.mk #[113, 117, 97, 115, 105, 113, 117, 111, 116, 101] from by decide +kernel, w64 (by have : ((ByteArray.size (ByteArray.mk #[96]) : Nat) : Int) = 1 := rfl; omega) (by have : ((ByteArray.size (ByteArray.mk #[96]) : Nat) : Int) = 1 := rfl; omega)]
      exact ⟨rfl, Wk.refl _, rfl⟩
  have g10 := of_decide_eq_false h
  clear h w10
  rw [w64 (by omega) (by omega)]
  have w11 := sHere_ok t hs (by omega) p (by omega) [44] (by intro x hx; simp at hx; omega) (by simp)
  rw [show bytesOf [44] = ByteArray.mk #[44] from by decide +kernel, hereB_1 44 _ (by omega)] at w11
  refine token_scanner_nextO_l0 ?_
  unfold token_scanner_nextO_R0
  refine ⟨fun _ => ⟨⟨by omega, by omega⟩, ByteArray.mk #[44], 6, ByteArray.mk #[117, 110, 113, 117, 111, 116, 101], rfl, _, _, _, w11, fun h => ?_, fun h => ?_⟩, fun h => absurd h (by decide)⟩
  · have h := of_decide_eq_true h
    refine sg 6 [117, 110, 113, 117, 111, 116, 101] 1 ?_ (by decide) _ _ ?_
    · unfold signP
      first | (simp only [h]; rfl) | (simp [h]; done) | (simp [h]; omega)
    · rw [show bytesOf [117, 110, 113, 117, 111, 116, 101] = ByteArray.mk #[117, 110, 113, 117, 111, 116, 101] from by decide +kernel, w64 (by have : ((ByteArray.size (ByteArray.mk #[44]) : Nat) : Int) = 1 := rfl; omega) (by have : ((ByteArray.size (ByteArray.mk #[44]) : Nat) : Int) = 1 := rfl; omega)]
      exact ⟨rfl, Wk.refl _, rfl⟩
  have g11 := of_decide_eq_false h
  clear h w11
  rw [w64 (by omega) (by omega)]
  refine token_scanner_nextO_l0 ?_
  unfold token_scanner_nextO_R0
  have hpk := sPeek_ok t p 0 (by omega) (by omega)
  rw [← hpL 0] at hpk
  obtain ⟨dk, ds, dn, dl, db, dq, hD, hV⟩ := sDatum_ok t hs hlen p hp
  refine ⟨fun h => absurd h (by decide), fun _ => ⟨_, _, _, hpk, ?_⟩⟩
  simp only [beq_t, beq_f, not_t, not_f, decide_eq_true_eq, decide_eq_false_iff_not]
  have leaf : signP (t.drop p) = (0, [], 0) → ∀ X Y : Prop, (RX (.ifv 55 true [.int .i64 ((p : Nat) : Int)]) (shH (scM t p)) → X) → (R (.agg ([.int .i64 7, .str (ByteArray.mk #[]), .int .i64 dk, .str (bytesOf ds), .bool dn, .sl 1 (ints .u32 dl), .sl 6 ([] : List (List FV)), .int .i64 ((p : Nat) : Int), .int .i64 ((p : Nat) : Int)].map .fz)) (scM t dq) → Y) → ((db = false → X) ∧ (db = true → Y)) := by
    intro hsg X Y hx hy
    refine ⟨fun hb => hx (hX ?_), fun hb => hy (hR ⟨7, [], lf dk ds dn dl p, p⟩ dq ?_ _ _ ?_)⟩
    · unfold nextV; rw [hsg]; simp only; rw [if_neg (by simp), hV, hb, if_neg (by simp)]
    · unfold nextV; rw [hsg]; simp only; rw [if_neg (by simp), hV, hb, if_pos rfl]
    · unfold Tok.row
      rw [lf_row]
      exact ⟨rfl, Wk.refl _, rfl⟩
  refine ⟨fun c46 => ⟨_, _, _, sLeft_ok t p 2 (by omega) (by omega), ?_⟩, fun c46 => ?_⟩
  · have e1 : IntKind.wrap .i64 ((p : Int) + 1) = ((p + 1 : Nat) : Int) := w64 (by omega) (by omega)
    have dot : (pkL (t.drop p) 1 < 0 ∨ endsB (pkL (t.drop p) 1) = true) → R (.agg [.fz (.int .i64 4), .fz (.str (ByteArray.mk #[])), .fz (.int .i64 0), .fz (.str (ByteArray.mk #[])), .fz (.bool false), .ofl 1 1, .ofl 6 2, .fz (.int .i64 0), .fz (.int .i64 ((p : Nat) : Int))]) [.g 59 [.fz (.sl 1 (ints .i64 t)), .fz (.int .i64 (IntKind.wrap .i64 ((p : Int) + 1)))], .f 0 1 ([] : List (List FV)), .f 0 6 ([] : List (List FV))] := fun h => by
      rw [e1]
      exact sg 4 [] 1 (by unfold signP; simp [c46, h]) (by decide) _ _ ⟨rfl, Wk.refl _, rfl⟩
    simp only [not_t, not_f, decide_eq_true_eq, decide_eq_false_iff_not]
    refine ⟨fun h2 => dot (.inl ?_), fun h2 => ⟨_, _, _, sPeek_ok t p 1 (by omega) (by omega), _, uEnds_ok _, fun he => dot (.inr ?_), fun he => ⟨_, _, _, _, _, _, _, _, _, hD, ?_⟩⟩⟩
    · rw [hpL 1, pkL_ge (by omega)]; omega
    · rw [hpL 1]; exact he
    · have hsg : signP (t.drop p) = (0, [], 0) := by
        have hlt : p + 1 < t.length := by omega
        have h1 : ¬ (pkL (t.drop p) 1 < 0 ∨ endsB (pkL (t.drop p) 1) = true) := by
          rw [hpL 1]
          rintro (h | h)
          · rw [pkL_lt hlt] at h
            have := (scal_in (hs.rd hlt)).1
            omega
          · rw [he] at h; cases h
        unfold signP
        simp only [c46]
        rw [if_neg (by omega), if_neg (by omega), if_neg (by omega), if_neg (by omega), if_neg (by omega), if_neg (by omega), if_neg (by omega), if_neg (by omega), if_neg (by omega), if_neg (by omega), if_neg (by omega), if_neg (by omega), if_neg (fun h => h1 h.2)]
      exact leaf hsg _ _ (fun h => h) (fun h => h)
  · refine ⟨_, _, _, _, _, _, _, _, _, hD, ?_⟩
    have hsg : signP (t.drop p) = (0, [], 0) := by
      unfold signP
      rw [if_neg g0, if_neg g5, if_neg g3, if_neg g4, if_neg g2, if_neg g1, if_neg g6, if_neg g11, if_neg g9, if_neg g10, if_neg g7, if_neg g8, if_neg (fun h => c46 h.1)]
    exact leaf hsg _ _ (fun h => h) (fun h => h)
theorem sNext_ok (t : List Int) (hs : Scals t) (hlen : t.length ≤ 4000000) (p : Nat) (hp : p < t.length) (tok : Tok) (q : Nat) (h : nextV t p = some (tok, q)) :
    Fn Tryd.prog 23 [scP] (scM t p) (.agg (tok.row.map .fz)) (scM t q) := by
  refine token_scanner_nextO_fc _ _ (sNext_H t hs hlen p hp _ _ (fun tok' q' h' r' hh hc => ?_) (fun h' => ?_))
  · rw [h] at h'; cases h'; exact hc
  · rw [h] at h'; cases h'
theorem sNext_fx (t : List Int) (hs : Scals t) (hlen : t.length ≤ 4000000) (p : Nat) (hp : p < t.length) (h : nextV t p = none) :
    FnX Tryd.prog 23 [scP] (scM t p) (.ifv 55 true [.int .i64 ((p : Nat) : Int)]) := by
  refine token_scanner_nextO_fx _ _ (sNext_H t hs hlen p hp _ _ (fun tok' q' h' r' hh hc => ?_) (fun h' => ⟨rfl, rfl⟩))
  rw [h] at h'; cases h'
end Go.Proofs.YtejefchehdifhaaDoor.Ev
end
section
set_option linter.unusedVariables false
set_option linter.unusedSimpArgs false
namespace Go.Proofs.YtejefchehdifhaaDoor.Ev
open Go
theorem FnC.args {P : Program} {C : Array Value → World → (Ending → World → Prop) → Prop} {E : Ending → Value → Prop} {xs ys : List TV} {h : List Ob} {r : TV} {h' : List Ob} (hl : xs.length = ys.length)
    (hr : ∀ (i : Nat) (x : TV), xs[i]? = some x → ∃ y, ys[i]? = some y ∧ ∀ (w : World) (B : Nat → Prop) (locs : Nat → Option Loc) (v : Value), RT w B locs y v → RT w B locs x v)
    (F : FnC P C E xs h r h') : FnC P C E ys h r h' := by
  intro ext w locs vals H hsz hrep
  refine F ext w locs vals H (by rw [hsz, hl]) (fun i x hi => ?_)
  obtain ⟨y, hy, himp⟩ := hr i x hi
  obtain ⟨v, hv, hv2⟩ := hrep i y hy
  exact ⟨v, hv, himp _ _ _ _ hv2⟩
theorem FnC.ptr1 {P : Program} {C : Array Value → World → (Ending → World → Prop) → Prop} {E : Ending → Value → Prop} {o e c ty : Nat} (ty' : Nat) {xs : List TV} {h : List Ob} {r : TV} {h' : List Ob}
    (F : FnC P C E (.one (.ptr o e c ty) :: xs) h r h') : FnC P C E (.one (.ptr o e c ty') :: xs) h r h' := by
  refine FnC.args (by simp) (fun i x hi => ?_) F
  cases i with
  | zero => cases hi; exact ⟨_, rfl, fun _ _ _ _ h => h⟩
  | succ i => exact ⟨x, hi, fun _ _ _ _ h => h⟩
theorem FnC.ptr3 {P : Program} {C : Array Value → World → (Ending → World → Prop) → Prop} {E : Ending → Value → Prop} {o e c ty o2 e2 c2 ty2 o3 e3 c3 ty3 : Nat} {xs : List TV} {h : List Ob} {r : TV} {h' : List Ob}
    (F : FnC P C E (.one (.ptr o e c ty) :: .one (.ptr o2 e2 c2 ty2) :: .one (.ptr o3 e3 c3 ty3) :: xs) h r h') : FnC P C E (.one (.ptr o e c 0) :: .one (.ptr o2 e2 c2 0) :: .one (.ptr o3 e3 c3 0) :: xs) h r h' := by
  refine FnC.args (by simp) (fun i x hi => ?_) F
  match i, hi with
  | 0, hi => cases hi; exact ⟨_, rfl, fun _ _ _ _ h => h⟩
  | 1, hi => cases hi; exact ⟨_, rfl, fun _ _ _ _ h => h⟩
  | 2, hi => cases hi; exact ⟨_, rfl, fun _ _ _ _ h => h⟩
  | i + 3, hi => exact ⟨x, hi, fun _ _ _ _ h => h⟩
def scanL : Nat → List Int → Nat → List Tok → List Tok × Int × Int
  | 0, _, _, _ => ([], 0, 3)
  | f + 1, t, p, acc => if t.length ≤ p + blC false (t.drop p) then (acc, 0, 0) else
    match nextV t (p + blC false (t.drop p)) with
    | some (tok, e) => scanL f t e (acc ++ [tok])
    | none => ([], ((p + blC false (t.drop p) : Nat) : Int), 3)
def badN : List Int → Nat
  | [] => 0
  | c :: r => if scalB c = true then badN r + 1 else 0
def scanV (t : List Int) : List Tok × Int × Int := if badN t < t.length then ([], ((badN t : Nat) : Int), 1) else scanL (t.length + 1) t 0 []
abbrev toks (l : List Tok) : List (List FV) := l.map Tok.row
abbrev scT (x : List Tok × Int × Int) : TV := .tup [(false, [.fz (.sl 9 (toks x.1))]), (false, [.fz (.int .i64 x.2.1)]), (false, [.fz (.int .i64 x.2.2)])]
theorem toks_snoc (l : List Tok) (x : Tok) : toks l ++ [x.row] = toks (l ++ [x]) := by simp [toks]
theorem badN_scals : ∀ {t : List Int}, ¬ badN t < t.length → Scals t
  | [], _ => by intro c hc; cases hc
  | c :: r, h => by
    unfold badN at h
    split at h
    · rename_i hc
      rw [List.length_cons] at h
      intro x hx
      rcases List.mem_cons.1 hx with rfl | hx
      · exact hc
      · exact badN_scals (by omega) x hx
    · simp at h
theorem badN_spec : ∀ (t : List Int) (j : Nat), (j < badN t → scalB (rd t j) = true) ∧ (badN t < t.length → scalB (rd t (badN t)) = false)
  | [], j => ⟨fun h => by simp [badN] at h, fun h => by simp [badN] at h⟩
  | c :: r, j => by
    have ih := badN_spec r
    unfold badN
    by_cases hc : scalB c = true
    · rw [if_pos hc]
      refine ⟨fun h => ?_, fun h => ?_⟩
      · cases j with
        | zero => exact hc
        | succ j => exact (ih j).1 (by omega)
      · rw [List.length_cons] at h
        exact (ih 0).2 (by omega)
    · rw [if_neg hc]
      refine ⟨fun h => by omega, fun h => ?_⟩
      show scalB c = false
      simpa using hc
theorem badN_le : ∀ t : List Int, badN t ≤ t.length
  | [] => Nat.le_refl _
  | c :: r => by
    have := badN_le r
    unfold badN
    split <;> simp <;> omega
theorem ite_all {α : Type} {P : α → Prop} {c : Prop} [Decidable c] {a b : α} (h1 : c → P a) (h2 : ¬ c → P b) : P (if c then a else b) := by
  by_cases h : c
  · rw [if_pos h]; exact h1 h
  · rw [if_neg h]; exact h2 h
theorem signP_pos {r : List Int} (h : (signP r).2.2 ≠ 0) : (signP r).2.2 ≤ r.length ∧ (signP r).2.2 ≤ 3 := by
  have h0 : ∀ c, 0 ≤ c → pkL r 0 = c → 1 ≤ r.length := fun c hc e => pkL_pos (by omega)
  have h1 : ∀ c, 0 ≤ c → pkL r 1 = c → 2 ≤ r.length := fun c hc e => pkL_pos (by omega)
  have h2 : ∀ c, 0 ≤ c → pkL r 2 = c → 3 ≤ r.length := fun c hc e => pkL_pos (by omega)
  revert h
  unfold signP
  refine ite_all (P := fun s : Int × List Int × Nat => s.2.2 ≠ 0 → s.2.2 ≤ r.length ∧ s.2.2 ≤ 3) (fun hc _ => ⟨h2 _ (by omega) hc.2.2, by simp⟩) (fun _ => ?_)
  refine ite_all (P := fun s : Int × List Int × Nat => s.2.2 ≠ 0 → s.2.2 ≤ r.length ∧ s.2.2 ≤ 3) (fun hc _ => ⟨h1 _ (by omega) hc.2, by simp⟩) (fun _ => ?_)
  refine ite_all (P := fun s : Int × List Int × Nat => s.2.2 ≠ 0 → s.2.2 ≤ r.length ∧ s.2.2 ≤ 3) (fun hc _ => ⟨h1 _ (by omega) hc.2, by simp⟩) (fun _ => ?_)
  refine ite_all (P := fun s : Int × List Int × Nat => s.2.2 ≠ 0 → s.2.2 ≤ r.length ∧ s.2.2 ≤ 3) (fun hc _ => ⟨h1 _ (by omega) hc.2, by simp⟩) (fun _ => ?_)
  refine ite_all (P := fun s : Int × List Int × Nat => s.2.2 ≠ 0 → s.2.2 ≤ r.length ∧ s.2.2 ≤ 3) (fun hc _ => ⟨h1 _ (by omega) hc.2, by simp⟩) (fun _ => ?_)
  refine ite_all (P := fun s : Int × List Int × Nat => s.2.2 ≠ 0 → s.2.2 ≤ r.length ∧ s.2.2 ≤ 3) (fun hc _ => ⟨h1 _ (by omega) hc.2, by simp⟩) (fun _ => ?_)
  refine ite_all (P := fun s : Int × List Int × Nat => s.2.2 ≠ 0 → s.2.2 ≤ r.length ∧ s.2.2 ≤ 3) (fun hc _ => ⟨h1 _ (by omega) hc.2, by simp⟩) (fun _ => ?_)
  refine ite_all (P := fun s : Int × List Int × Nat => s.2.2 ≠ 0 → s.2.2 ≤ r.length ∧ s.2.2 ≤ 3) (fun hc _ => ⟨h0 _ (by omega) hc, by simp⟩) (fun _ => ?_)
  refine ite_all (P := fun s : Int × List Int × Nat => s.2.2 ≠ 0 → s.2.2 ≤ r.length ∧ s.2.2 ≤ 3) (fun hc _ => ⟨h0 _ (by omega) hc, by simp⟩) (fun _ => ?_)
  refine ite_all (P := fun s : Int × List Int × Nat => s.2.2 ≠ 0 → s.2.2 ≤ r.length ∧ s.2.2 ≤ 3) (fun hc _ => ⟨h0 _ (by omega) hc, by simp⟩) (fun _ => ?_)
  refine ite_all (P := fun s : Int × List Int × Nat => s.2.2 ≠ 0 → s.2.2 ≤ r.length ∧ s.2.2 ≤ 3) (fun hc _ => ⟨h0 _ (by omega) hc, by simp⟩) (fun _ => ?_)
  refine ite_all (P := fun s : Int × List Int × Nat => s.2.2 ≠ 0 → s.2.2 ≤ r.length ∧ s.2.2 ≤ 3) (fun hc _ => ⟨h0 _ (by omega) hc, by simp⟩) (fun _ => ?_)
  refine ite_all (P := fun s : Int × List Int × Nat => s.2.2 ≠ 0 → s.2.2 ≤ r.length ∧ s.2.2 ≤ 3) (fun hc _ => ⟨h0 _ (by omega) hc.1, by simp⟩) (fun _ => ?_)
  exact fun h => absurd rfl h
theorem strF_le : ∀ (f : Nat) (r acc : List Int) (k : Nat) (a : List Int) (e : Nat), strF f r acc k = some (a, e) → k < e ∧ e ≤ k + r.length
  | 0, r, acc, k, a, e, h => by unfold strF at h; cases h
  | f + 1, [], acc, k, a, e, h => by unfold strF at h; cases h
  | f + 1, c :: r, acc, k, a, e, h => by
    unfold strF at h
    split at h
    · cases h; simp
    · split at h
      · have := strF_le f r _ _ a e h
        simp only [List.length_cons]; omega
      · split at h
        · cases h
        · rename_i hc
          have := strF_le f _ _ _ a e h
          have g := (escV_pos (r := r) (by omega)).2.2
          simp only [List.length_cons, List.length_drop] at this ⊢
          omega
theorem chN_le (r : List Int) (h : r ≠ []) : chN_ r ≤ r.length := by
  have := untilN_le (r.drop 1)
  have hl : r.length ≠ 0 := fun e => h (List.length_eq_zero_iff.1 e)
  unfold chN_
  rw [List.length_drop] at this
  omega
theorem atomK_nil : atomK [] = 0 := by decide +kernel
theorem datV_le {f : Nat} {r : List Int} {p : Nat} {k : Int} {s : List Int} {n : Bool} {l : List Int} {e : Nat} (h : datV f r p = some (k, s, n, l, e)) : p < e ∧ e ≤ p + r.length := by
  unfold datV at h
  split at h
  · rename_i hc
    have hr : 0 < r.length := pkL_pos (i := 0) (by omega)
    split at h
    · rename_i a e' hst
      split at h
      · cases h
        have := strF_le _ _ _ _ _ _ hst
        rw [List.length_drop] at this
        omega
      · cases h
    · cases h
  · split at h
    · rename_i hc
      have hr : 1 < r.length := pkL_pos (i := 1) (by omega)
      split at h
      · rename_i hv
        cases h
        have hne : r.drop 2 ≠ [] := fun e => by rw [e] at hv; exact absurd hv (by decide)
        have := chN_le _ hne
        unfold chQ
        rw [if_neg hne]
        rw [List.length_drop] at this
        have h1 : 1 ≤ chN_ (r.drop 2) := by unfold chN_; omega
        omega
      · cases h
    · split at h
      · rename_i hk
        cases h
        have := untilN_le r
        have h0 : untilN r ≠ 0 := fun e => by
          rw [e, List.take_zero, show enc [] = [] from rfl, atomK_nil] at hk
          exact hk rfl
        omega
      · cases h
theorem nextV_le {t : List Int} {p : Nat} {tok : Tok} {e : Nat} (hp : p ≤ t.length) (h : nextV t p = some (tok, e)) : p < e ∧ e ≤ t.length := by
  unfold nextV at h
  split at h
  · rename_i hs
    cases h
    have := signP_pos hs
    rw [List.length_drop] at this
    omega
  · split at h
    · rename_i k s n l e' hd
      cases h
      have := datV_le hd
      rw [List.length_drop] at this
      omega
    · cases h
theorem scanDx_ok (q : Nat) : FnDf Tryd.prog 20 [.one (.ptr 0 0 0 0), .one (.ptr 1 0 0 0), .one (.ptr 2 0 0 0)] [.g 24 [.und], .g 3 [.und], .g 25 [.und]] (some (.ifv 55 true [.int .i64 ((q : Nat) : Int)]))
    [.g 24 [.nsl 9], .g 3 [.fz (.int .i64 ((q : Nat) : Int))], .g 25 [.fz (.int .i64 3)]] := by
  have := scanDx_fn ((q : Nat) : Int) (h := [.g 24 [.nsl 9], .g 3 [.fz (.int .i64 ((q : Nat) : Int))], .g 25 [.fz (.int .i64 3)]]) ⟨fun _ => Wk.refl _, fun h => absurd h (by decide)⟩
  exact FnC.ptr3 this
theorem scanD0_ok (l : List (List FV)) : FnDf Tryd.prog 20 [.one (.ptr 0 0 0 0), .one (.ptr 1 0 0 0), .one (.ptr 2 0 0 0)] [.g 24 [.ofl 9 3], .g 3 [.fz (.int .i64 0)], .g 25 [.fz (.int .i64 0)], .f 0 9 l] none
    [.g 24 [.ofl 9 3], .g 3 [.fz (.int .i64 0)], .g 25 [.fz (.int .i64 0)], .f 0 9 l] := by
  have := scanD0_fn 0 0 l (h := [.g 24 [.ofl 9 3], .g 3 [.fz (.int .i64 0)], .g 25 [.fz (.int .i64 0)], .f 0 9 l]) ⟨fun h => absurd h (by decide), fun _ => Wk.refl _⟩
  exact FnC.ptr3 this
theorem sScan_loop (t : List Int) (hs : Scals t) (hlen : t.length ≤ 4000000) (R : TV → List Ob → Prop) (RX : FV → List Ob → Prop) : ∀ (f p : Nat) (acc : List Tok), t.length - p < f → p ≤ t.length → acc.length ≤ p → R (scT (scanL f t p acc)) [] →
    token_Scan_L0 R RX (ints .i64 t) ((p + blC false (t.drop p) : Nat) : Int) (toks acc) := by
  intro f
  induction f with
  | zero => intro p acc hf; omega
  | succ f ih =>
    intro p acc hf hp hacc hR
    have hb := blC_le false (t.drop p)
    rw [List.length_drop] at hb
    unfold scanL at hR
    generalize hq : p + blC false (t.drop p) = q at *
    refine token_Scan_l0 ?_
    unfold token_Scan_R0
    refine ⟨_, _, _, FnC.ptr1 0 (sLeft_ok t q 1 (by omega) (by omega)), fun h => ?_, fun h => ?_⟩
    · have hlt : q < t.length := of_decide_eq_true h
      rw [if_neg (by omega)] at hR
      cases hn : nextV t q with
      | none =>
        rw [hn] at hR
        exact .inl ⟨_, FnC.ptr1 0 (sNext_fx t hs hlen q hlt hn), _, _, scanDx_ok q, hR⟩
      | some te =>
        obtain ⟨tok, e⟩ := te
        rw [hn] at hR
        simp only at hR
        have hle := nextV_le (by omega) hn
        have hN := sNext_ok t hs hlen q hlt tok e hn
        obtain ⟨tk, tn, td, ta⟩ := tok
        obtain ⟨dk, dt, dn, dl, dds, da⟩ := td
        refine .inr ⟨_, _, _, _, _, _, _, _, _, _, _, FnC.ptr1 0 hN, by simp only [List.length_map, List.length_cons, List.length_nil]; omega, _, _, FnC.ptr1 0 (sBlanks_ok t (by omega) e (by omega)), ?_⟩
        have := ih e (acc ++ [⟨tk, tn, .mk dk dt dn dl dds da, ta⟩]) (by omega) (by omega) (by simp; omega) hR
        rw [← toks_snoc] at this
        exact this
    · have hge : t.length ≤ q := by have := of_decide_eq_false h; omega
      rw [if_pos hge] at hR
      exact ⟨_, _, _, scanD0_ok _, hR⟩
theorem ixScal_loop (t : List Int) (hlen : t.length ≤ 100000000) (R : TV → List Ob → Prop) (hR : R (fzI .i64 (if badN t < t.length then ((badN t : Nat) : Int) else -1)) []) : ∀ (m j : Nat), t.length - j = m → j ≤ badN t → ixScal_L0 R (ints .i64 t) j := by
  have hle := badN_le t
  intro m
  induction m with
  | zero =>
    intro j hj h
    refine ixScal_l0 ?_
    unfold ixScal_R0
    rw [ints_len]
    refine ⟨fun h => absurd (of_decide_eq_true h) (by omega), fun _ => ?_⟩
    rw [if_neg (by omega)] at hR
    exact hR
  | succ m ih =>
    intro j hj h
    have hlt : j < t.length := by omega
    refine ixScal_l0 ?_
    unfold ixScal_R0
    rw [ints_len]
    refine ⟨fun _ => ⟨by omega, rd t j, by simp [ints, some_rd hlt], _, scanFn1_ok _, fun hb => ?_, fun hb => ?_⟩, fun h => absurd (of_decide_eq_false h) (by omega)⟩
    · have : ¬ j < badN t := fun h2 => by
        have := (badN_spec t j).1 h2
        rw [this] at hb; cases hb
      have e : badN t = j := by omega
      rw [e, if_pos hlt] at hR
      exact hR
    · have hb' : scalB (rd t j) = true := by simpa using hb
      have : badN t ≠ j := fun e => by
        have := (badN_spec t j).2 (by omega)
        rw [e, hb'] at this; cases this
      rw [w64 (by omega) (by omega)]
      exact ih (j + 1) (by omega) (by omega)
theorem tScan_ok (t : List Int) (hlen : t.length ≤ 4000000) : Fn Tryd.prog 8 [fzS .i64 t] [] (scT (scanV t)) [] := by
  refine token_Scan_fn _ ?_
  obtain ⟨R, hR, hRe⟩ := exW (scT (scanV t)) []; rw [hRe]; clear hRe
  unfold scanV at hR
  unfold token_Scan_H
  refine ⟨_, ixScal_fn _ (ixScal_loop t (by omega) _ ⟨rfl, rfl⟩ _ 0 rfl (Nat.zero_le _)), ?_⟩
  by_cases hb : badN t < t.length
  · rw [if_pos hb] at hR ⊢
    exact ⟨fun _ => hR _ (Wk.refl _), fun h => absurd (of_decide_eq_false h) (by omega)⟩
  · rw [if_neg hb] at hR ⊢
    refine ⟨fun h => absurd (of_decide_eq_true h) (by omega), fun _ => ?_⟩
    exact ⟨_, _, FnC.ptr1 0 (sBlanks_ok t (by omega) 0 (by omega)), sScan_loop t (badN_scals hb) hlen R _ (t.length + 1) 0 [] (by omega) (by omega) (by simp) (hR _ (Wk.refl _))⟩
end Go.Proofs.YtejefchehdifhaaDoor.Ev
end
section
set_option linter.unusedVariables false
set_option linter.unusedSimpArgs false
namespace Go.Proofs.YtejefchehdifhaaDoor.Ev
open Go
theorem nextV_leaf {t : List Int} {p : Nat} (h : (signP (t.drop p)).2.2 = 0) : nextV t p = (datV (t.length + 1) (t.drop p) p).map fun x => (⟨7, [], lf x.1 x.2.1 x.2.2.1 x.2.2.2.1 p, p⟩, x.2.2.2.2) := by
  unfold nextV
  rw [if_neg (by omega)]
  cases datV (t.length + 1) (t.drop p) p <;> rfl
end Go.Proofs.YtejefchehdifhaaDoor.Ev
end
section
set_option linter.unusedVariables false
set_option maxRecDepth 100000
namespace Go.Proofs.YtejefchehdifhaaDoor.Ev
open Go
def ref02_CharsO_lv : List Nat → Keep := lvOf [([0, 0, 1, 1, 1], ⟨49, 0, [], false, false⟩)]
def ref02_CharsO_S0 (b : List (List FV)) (at_ : Int) (o : List (List FV)) : St := (St.mk [(TV.one (AV.fz (FV.sl 1 b))), TV.und, TV.und, TV.und, (TV.one (AV.ofl 1 0)), (TV.one (AV.fz (FV.int .i64 at_))), TV.und, TV.und, TV.und, TV.und, TV.und, TV.und, TV.und, TV.und, TV.und, TV.und, TV.und, TV.und, TV.und, TV.und, TV.und, TV.und, TV.und, TV.und, TV.und, TV.und, TV.und, TV.und, TV.und] [(Ob.f 0 1 o)])
def ref02_CharsO_L0 (R : TV → List Ob → Prop) (b : List (List FV)) (at_ : Int) (o : List (List FV)) : Prop := LoopAt Tryd.prog (modeOf [] []) ref02_CharsO_lv Tryd.f11 (some 0) R [1, 1, 1, 0, 0] (ref02_CharsO_S0 b at_ o)
def ref02_CharsO_R0 (R : TV → List Ob → Prop) (b : List (List FV)) (at_ : Int) (o : List (List FV)) : Prop :=
  ((((decide (at_ < (((List.length b) : Nat) : Int))) = true) → (∃ n4 : Int, (∃ n5 : Int, ((Fn Tryd.prog 25 [(TV.one (AV.fz (FV.sl 1 b))), (TV.one (AV.fz (FV.int .i64 at_)))] [] (TV.tup [(false, [(AV.fz (FV.int .i64 n4))]), (false, [(AV.fz (FV.int .i64 n5))])]) []) ∧ ((((n5 == 0) = true) → (R (TV.tup [(false, [(AV.ofl 1 0)]), (false, [(AV.fz (FV.int .i64 at_))])]) [(Ob.f 0 1 ([] : List (List FV)))])) ∧ (((n5 == 0) = false) → (((((List.length o) + (List.length [[(FV.int .i64 n4)]])) * 8) ≤ 220000000000000) ∧ (ref02_CharsO_L0 R b (IntKind.wrap .i64 (at_ + n5)) (o ++ [[(FV.int .i64 n4)]]))))))))) ∧ (((decide (at_ < (((List.length b) : Nat) : Int))) = false) → (R (TV.tup [(false, [(AV.ofl 1 0)]), (false, [(AV.fz (FV.int .i64 (-1)))])]) [(Ob.f 0 1 o)])))
theorem ref02_CharsO_l0 {R : TV → List Ob → Prop} {b : List (List FV)} {at_ : Int} {o : List (List FV)} (h : ref02_CharsO_R0 R b at_ o) : ref02_CharsO_L0 R b at_ o :=
  LoopAt.by_tr (by kernel_rfl) (by kernel_rfl) h
def ref02_CharsO_H (R : TV → List Ob → Prop) (b : List (List FV)) : Prop :=
  (ref02_CharsO_L0 R b 0 ([] : List (List FV)))
theorem ref02_CharsO_fn (b : List (List FV)) {r : TV} {h : List Ob} (H : ref02_CharsO_H (fun r' h' => r' = r ∧ Wk h' h) b) : Fn Tryd.prog 11 [(TV.one (AV.fz (FV.sl 1 b)))] [] r h :=
  Fn.by_trW (M := (modeOf [] [])) (lv := ref02_CharsO_lv) (own := (some 0)) (F := Tryd.f11) (by kernel_rfl) (by kernel_rfl) (by first | decide | simp) (fun _ _ h => h) (by kernel_rfl) H
def law03_charsO_lv : List Nat → Keep := lvOf []
def law03_charsO_H (R : TV → List Ob → Prop) (s : ByteArray) : Prop :=
  (∃ es1 : List (List FV), (∃ n1 : Int, ((Fn Tryd.prog 11 [(TV.one (AV.fz (FV.sl 1 (List.map (fun b3 => [(FV.int .u8 (((UInt8.toNat b3) : Nat) : Int))]) (Array.toList (ByteArray.data s))))))] [] (TV.tup [(false, [(AV.ofl 1 0)]), (false, [(AV.fz (FV.int .i64 n1))])]) [(Ob.f 0 1 es1)]) ∧ (R (TV.one (AV.ofl 1 0)) [(Ob.f 0 1 es1)]))))
theorem law03_charsO_fn (s : ByteArray) {r : TV} {h : List Ob} (H : law03_charsO_H (fun r' h' => r' = r ∧ Wk h' h) s) : Fn Tryd.prog 7 [(TV.one (AV.fz (FV.str s)))] [] r h :=
  Fn.by_trW (M := (modeOf [11] [])) (lv := law03_charsO_lv) (own := (some 0)) (F := Tryd.f7) (by kernel_rfl) (by kernel_rfl) (by first | decide | simp) (fun _ _ h => h) (by kernel_rfl) H
end Go.Proofs.YtejefchehdifhaaDoor.Ev
end
section
set_option linter.unusedVariables false
set_option maxRecDepth 100000
namespace Go.Proofs.YtejefchehdifhaaDoor.Ev
open Go
def law03_answers_lv : List Nat → Keep := lvOf []
def law03_answers_H (R : TV → List Ob → Prop)  : Prop :=
  (∃ es3 : List (List FV), (∃ n6 : Int, (∃ n7 : Int, ((Fn Tryd.prog 8 [(TV.one (AV.fz (FV.sl 1 [[(FV.int .i64 40)], [(FV.int .i64 97)], [(FV.int .i64 41)]])))] [] (TV.tup [(false, [(AV.fz (FV.sl 9 es3))]), (false, [(AV.fz (FV.int .i64 n6))]), (false, [(AV.fz (FV.int .i64 n7))])]) []) ∧ ((((n7 == 0) = true) → (((((((List.length es3) : Nat) : Int) == 3) = true) → (((0 : Int) ≤ 1) ∧ (∃ n8 : Int, (∃ s2 : ByteArray, (∃ n9 : Int, (∃ s3 : ByteArray, (∃ b1 : Bool, (∃ es4 : List (List FV), (∃ es5 : List (List FV), (∃ n10 : Int, (∃ n11 : Int, (((es3)[(Int.toNat 1)]? = (some [(FV.int .i64 n8), (FV.str s2), (FV.int .i64 n9), (FV.str s3), (FV.bool b1), (FV.sl 1 es4), (FV.sl 6 es5), (FV.int .i64 n10), (FV.int .i64 n11)])) ∧ (R (TV.one (AV.fz (FV.bool ((ByteArray.toList s3) == (ByteArray.toList (ByteArray.mk #[97])))))) []))))))))))))) ∧ ((((((List.length es3) : Nat) : Int) == 3) = false) → (R (TV.one (AV.fz (FV.bool false))) [])))) ∧ (((n7 == 0) = false) → (R (TV.one (AV.fz (FV.bool false))) [])))))))
theorem law03_answers_fn  {r : TV} {h : List Ob} (H : law03_answers_H (fun r' h' => r' = r ∧ h' = h) ) : Fn Tryd.prog 9 [] [] r h :=
  Fn.by_tr (M := (modeOf [] [])) (lv := law03_answers_lv) (own := none) (F := Tryd.f9) (by kernel_rfl) (by kernel_rfl) (by first | decide | simp) (fun _ _ h => h) (by kernel_rfl) H
end Go.Proofs.YtejefchehdifhaaDoor.Ev
end
section
set_option linter.unusedVariables false
set_option linter.unusedSimpArgs false
namespace Go.Proofs.YtejefchehdifhaaDoor.Ev
open Go
theorem answers3_ok : Fn Tryd.prog 9 [] [] (fzB true) [] := by
  refine law03_answers_fn ?_
  unfold law03_answers_H
  have h := tScan_ok [40, 97, 41] (by simp)
  have e : scanV [40, 97, 41] = ([⟨1, [], lf 0 [] false [] 0, 0⟩, ⟨7, [], lf 4 [97] false [] 1, 1⟩, ⟨2, [], lf 0 [] false [] 0, 2⟩], 0, 0) := by kernel_rfl
  rw [e] at h
  refine ⟨_, _, _, h, fun _ => ⟨fun _ => ⟨by omega, _, _, _, _, _, _, _, _, _, rfl, ?_, rfl⟩, fun h => absurd h (by decide)⟩, fun h => absurd h (by decide)⟩
  rw [show ((bytesOf [97]).toList == (ByteArray.mk #[97]).toList) = true from by decide +kernel]
theorem tok_get {l : List Tok} {j : Nat} (h : j < l.length) : (toks l)[Int.toNat ((j : Nat) : Int)]? = some l[j].row := by
  rw [Int.toNat_natCast]; simp [toks, h]
theorem rCharsO_loop (l : List Int) (h : Bytes l) (hlen : l.length ≤ 20000000000000) (R : TV → List Ob → Prop)
    (hR : ∀ h', Wk h' [.f 0 1 (ints .i64 (chL l))] → R (.tup [(false, [.ofl 1 0]), (false, [.fz (.int .i64 (chars l).2)])]) h') :
    ∀ (f at_ : Nat) (acc : List Int), at_ ≤ l.length → l.length - at_ < f → acc.length ≤ at_ → chs f l at_ acc = chars l → ref02_CharsO_L0 R (ints .u8 l) at_ (ints .i64 acc)
  | 0, at_, acc, h1, h2, h3, h4 => by omega
  | f + 1, at_, acc, h1, h2, h3, h4 => by
    refine ref02_CharsO_l0 ?_
    unfold ref02_CharsO_R0
    unfold chs at h4
    simp only [ints_len]
    by_cases hat : l.length ≤ at_
    · rw [if_pos hat] at h4
      refine ⟨fun h => absurd (of_decide_eq_true h) (by omega), fun _ => ?_⟩
      unfold chL at hR
      rw [← h4, if_pos rfl] at hR
      exact hR _ (Wk.refl _)
    · rw [if_neg hat] at h4
      have hne : l.drop at_ ≠ [] := fun e => by have := congrArg List.length e; simp at this; omega
      have hO := one_ok l h (by omega) at_ (by omega)
      have hbd := ch1_bounds (drop_bytes h at_) hne
      rw [List.length_drop] at hbd
      refine ⟨fun _ => ⟨_, _, hO, fun h0 => ?_, fun h0 => ⟨by simp only [List.length_cons, List.length_nil]; omega, ?_⟩⟩, fun h => absurd (of_decide_eq_false h) (by omega)⟩
      · have h0' : (ch1 (l.drop at_)).2 = 0 := by simpa using h0
        rw [if_pos h0'] at h4
        unfold chL at hR
        rw [← h4] at hR
        simp only at hR
        rw [if_neg (by omega)] at hR
        exact hR _ (Wk.refl _)
      · have h0' : (ch1 (l.drop at_)).2 ≠ 0 := by simpa using h0
        rw [if_neg h0'] at h4
        rw [w64 (by omega) (by omega), ints_snoc, show (at_ : Int) + (ch1 (l.drop at_)).2 = ((at_ + (ch1 (l.drop at_)).2.toNat : Nat) : Int) by omega]
        exact rCharsO_loop l h hlen R hR f _ _ (by omega) (by omega) (by rw [List.length_append, List.length_singleton]; omega) h4
theorem rCharsO_ok (l : List Int) (h : Bytes l) (hlen : l.length ≤ 20000000000000) : Fn Tryd.prog 11 [fzS .u8 l] [] (.tup [(false, [.ofl 1 0]), (false, [.fz (.int .i64 (chars l).2)])]) [.f 0 1 (ints .i64 (chL l))] := by
  refine ref02_CharsO_fn _ ?_
  obtain ⟨R, hR, hRe⟩ := exW (.tup [(false, [.ofl 1 0]), (false, [.fz (.int .i64 (chars l).2)])]) [.f 0 1 (ints .i64 (chL l))]; rw [hRe]; clear hRe
  unfold ref02_CharsO_H
  exact rCharsO_loop l h hlen R hR (l.length + 1) 0 [] (by omega) (by omega) (by simp) rfl
theorem charsO_ok (T : List Int) (hT : Bytes T) (hlen : T.length ≤ 16777216) : Fn Tryd.prog 7 [.one (.fz (.str (bytesOf T)))] [] (.one (.ofl 1 0)) [.f 0 1 (ints .i64 (chL T))] := by
  refine law03_charsO_fn _ ?_
  obtain ⟨R, hR, hRe⟩ := exW (.one (.ofl 1 0)) [.f 0 1 (ints .i64 (chL T))]; rw [hRe]; clear hRe
  unfold law03_charsO_H
  rw [map_bs, bs_of hT]
  exact ⟨_, _, rCharsO_ok T hT (by omega), hR _ (Wk.refl _)⟩
end Go.Proofs.YtejefchehdifhaaDoor.Ev
end
section
set_option linter.unusedVariables false
set_option linter.unusedSimpArgs false
namespace Go.Proofs.YtejefchehdifhaaDoor.Ev
open Go
theorem strF_shift : ∀ (f : Nat) (r acc : List Int) (k j : Nat), strF f r acc (k + j) = (strF f r acc k).map fun x => (x.1, x.2 + j)
  | 0, r, acc, k, j => by unfold strF; rfl
  | f + 1, [], acc, k, j => by unfold strF; rfl
  | f + 1, c :: r, acc, k, j => by
    unfold strF
    split
    · simp only [Option.map_some]; congr 2; omega
    · split
      · rw [show k + j + 1 = k + 1 + j by omega]; exact strF_shift f r _ _ j
      · split
        · rfl
        · rw [show k + j + 1 + (escV r).2 = k + 1 + (escV r).2 + j by omega]; exact strF_shift f _ _ _ j
theorem strF_fuel : ∀ (f f' : Nat) (r acc : List Int) (k : Nat), r.length < f → r.length < f' → strF f r acc k = strF f' r acc k
  | 0, f', r, acc, k, h, h' => by omega
  | f + 1, 0, r, acc, k, h, h' => by omega
  | f + 1, f' + 1, [], acc, k, h, h' => by unfold strF; rfl
  | f + 1, f' + 1, c :: r, acc, k, h, h' => by
    simp only [List.length_cons] at h h'
    unfold strF
    split
    · rfl
    · split
      · exact strF_fuel f f' r _ _ (by omega) (by omega)
      · split
        · rfl
        · exact strF_fuel f f' _ _ _ (by simp; omega) (by simp; omega)
structure Wd where
  kind : Int
  name : List Int
  k : Int
  s : List Int
  n : Bool
  l : List Int
  len : Nat
def Wd.tok (x : Wd) (p : Nat) : Tok := ⟨x.kind, x.name, lf x.k x.s x.n x.l (if x.kind = 7 then ((p : Nat) : Int) else 0), p⟩
def datS (r : List Int) : Option Wd := (datV (r.length + 1) r 0).map fun x => ⟨7, [], x.1, x.2.1, x.2.2.1, x.2.2.2.1, x.2.2.2.2⟩
def nextS (r : List Int) : Option Wd := if (signP r).2.2 ≠ 0 then some ⟨(signP r).1, (signP r).2.1, 0, [], false, [], (signP r).2.2⟩ else datS r
theorem datV_S (F : Nat) (r : List Int) (p : Nat) (hF : r.length < F) : datV F r p = (datV (r.length + 1) r 0).map fun x => (x.1, x.2.1, x.2.2.1, x.2.2.2.1, p + x.2.2.2.2) := by
  unfold datV
  split
  · rw [strF_fuel F (r.length + 1) (r.drop 1) [] (p + 1) (by simp; omega) (by simp; omega), show p + 1 = 0 + 1 + p by omega, strF_shift]
    cases strF (r.length + 1) (r.drop 1) [] (0 + 1) with
    | none => rfl
    | some ae =>
      obtain ⟨a, e⟩ := ae
      simp only [Option.map_some]
      split
      · simp only [Option.map_some]; congr 5; omega
      · rfl
  · split
    · split
      · simp only [Option.map_some]; congr 5; omega
      · rfl
    · split
      · simp only [Option.map_some]; congr 5; omega
      · rfl
theorem signP_kind {r : List Int} (h : (signP r).2.2 ≠ 0) : (signP r).1 ≠ 7 := by
  revert h
  unfold signP
  refine ite_all (P := fun s : Int × List Int × Nat => s.2.2 ≠ 0 → s.1 ≠ 7) (fun _ _ => by simp) (fun _ => ?_)
  refine ite_all (P := fun s : Int × List Int × Nat => s.2.2 ≠ 0 → s.1 ≠ 7) (fun _ _ => by simp) (fun _ => ?_)
  refine ite_all (P := fun s : Int × List Int × Nat => s.2.2 ≠ 0 → s.1 ≠ 7) (fun _ _ => by simp) (fun _ => ?_)
  refine ite_all (P := fun s : Int × List Int × Nat => s.2.2 ≠ 0 → s.1 ≠ 7) (fun _ _ => by simp) (fun _ => ?_)
  refine ite_all (P := fun s : Int × List Int × Nat => s.2.2 ≠ 0 → s.1 ≠ 7) (fun _ _ => by simp) (fun _ => ?_)
  refine ite_all (P := fun s : Int × List Int × Nat => s.2.2 ≠ 0 → s.1 ≠ 7) (fun _ _ => by simp) (fun _ => ?_)
  refine ite_all (P := fun s : Int × List Int × Nat => s.2.2 ≠ 0 → s.1 ≠ 7) (fun _ _ => by simp) (fun _ => ?_)
  refine ite_all (P := fun s : Int × List Int × Nat => s.2.2 ≠ 0 → s.1 ≠ 7) (fun _ _ => by simp) (fun _ => ?_)
  refine ite_all (P := fun s : Int × List Int × Nat => s.2.2 ≠ 0 → s.1 ≠ 7) (fun _ _ => by simp) (fun _ => ?_)
  refine ite_all (P := fun s : Int × List Int × Nat => s.2.2 ≠ 0 → s.1 ≠ 7) (fun _ _ => by simp) (fun _ => ?_)
  refine ite_all (P := fun s : Int × List Int × Nat => s.2.2 ≠ 0 → s.1 ≠ 7) (fun _ _ => by simp) (fun _ => ?_)
  refine ite_all (P := fun s : Int × List Int × Nat => s.2.2 ≠ 0 → s.1 ≠ 7) (fun _ _ => by simp) (fun _ => ?_)
  refine ite_all (P := fun s : Int × List Int × Nat => s.2.2 ≠ 0 → s.1 ≠ 7) (fun _ _ => by simp) (fun _ => ?_)
  exact fun h => absurd rfl h
theorem nextV_S (t : List Int) (p : Nat) (hp : p ≤ t.length) : nextV t p = (nextS (t.drop p)).map fun x => (x.tok p, p + x.len) := by
  by_cases h : (signP (t.drop p)).2.2 = 0
  · rw [nextV_leaf h, datV_S _ _ p (by simp; omega)]
    unfold nextS
    rw [if_neg (by omega)]
    unfold datS
    cases datV ((t.drop p).length + 1) (t.drop p) 0 with
    | none => rfl
    | some x => simp only [Option.map_some, Wd.tok, if_pos]
  · unfold nextV nextS
    rw [if_pos h, if_pos h]
    simp only [Option.map_some, Wd.tok]
    rw [if_neg (signP_kind h)]
def scS : Nat → List Int → Nat → Option (List Tok)
  | 0, _, _ => none
  | f + 1, r, p => if r.length ≤ blC false r then some [] else
    match nextS (r.drop (blC false r)) with
    | some x => (scS f (r.drop (blC false r + x.len)) (p + blC false r + x.len)).map (x.tok (p + blC false r) :: ·)
    | none => none
theorem nextS_len {r : List Int} {x : Wd} (h : nextS r = some x) : 0 < x.len ∧ x.len ≤ r.length := by
  have hv := nextV_S r 0 (by omega)
  rw [List.drop_zero, h] at hv
  have := nextV_le (by omega) hv
  omega
theorem scanL_S : ∀ (f : Nat) (t : List Int) (p : Nat) (acc : List Tok), p ≤ t.length → t.length - p < f → (∀ L, scS f (t.drop p) p = some L → scanL f t p acc = (acc ++ L, 0, 0)) ∧ (scS f (t.drop p) p = none → (scanL f t p acc).2.2 = 3)
  | 0, t, p, acc, hp, hf => by omega
  | f + 1, t, p, acc, hp, hf => by
    have hb := blC_le false (t.drop p)
    unfold scS scanL
    rw [List.length_drop] at hb ⊢
    by_cases hc : t.length ≤ p + blC false (t.drop p)
    · rw [if_pos (by omega), if_pos hc]
      exact ⟨fun L h => (by cases h; simp), fun h => (by cases h)⟩
    · rw [if_neg (by omega), if_neg hc, nextV_S t _ (by omega), List.drop_drop]
      cases hn : nextS (t.drop (p + blC false (t.drop p))) with
      | none => exact ⟨fun L h => (by cases h), fun _ => rfl⟩
      | some x =>
        have hx := nextS_len hn
        rw [List.length_drop] at hx
        simp only [Option.map_some]
        have ih := scanL_S f t (p + blC false (t.drop p) + x.len) (acc ++ [x.tok (p + blC false (t.drop p))]) (by omega) (by omega)
        rw [List.drop_drop, show p + (blC false (t.drop p) + x.len) = p + blC false (t.drop p) + x.len by omega]
        refine ⟨fun L h => ?_, fun h => ?_⟩
        · cases hs : scS f (t.drop (p + blC false (t.drop p) + x.len)) (p + blC false (t.drop p) + x.len) with
          | none => rw [hs] at h; cases h
          | some L' =>
            rw [hs] at h
            simp only [Option.map_some] at h
            cases h
            rw [ih.1 L' hs]
            simp
        · cases hs : scS f (t.drop (p + blC false (t.drop p) + x.len)) (p + blC false (t.drop p) + x.len) with
          | none => exact ih.2 hs
          | some L' => rw [hs] at h; cases h
theorem scS_fuel : ∀ (f f' : Nat) (r : List Int) (p : Nat), r.length < f → r.length < f' → scS f r p = scS f' r p
  | 0, f', r, p, h, h' => by omega
  | f + 1, 0, r, p, h, h' => by omega
  | f + 1, f' + 1, r, p, h, h' => by
    have hb := blC_le false r
    unfold scS
    split
    · rfl
    · split
      · rename_i x hn
        have hx := nextS_len hn
        rw [List.length_drop] at hx
        rw [scS_fuel f f' _ _ (by simp; omega) (by simp; omega)]
      · rfl
def wordsV (t : List Int) (p : Nat) : Option (List Tok) := scS (t.length + 1) t p
theorem badN_full {t : List Int} (hs : Scals t) : ¬ badN t < t.length := by
  intro h
  have h1 := (badN_spec t 0).2 h
  rw [hs.rd h] at h1; cases h1
theorem scanV_words {t : List Int} (hs : Scals t) {L : List Tok} (h : wordsV t 0 = some L) : scanV t = (L, 0, 0) := by
  unfold scanV
  rw [if_neg (badN_full hs)]
  have := (scanL_S (t.length + 1) t 0 [] (by omega) (by omega)).1 L h
  simpa using this
theorem wordsV_cons {b w r : List Int} {p : Nat} {x : Wd} (hb : blC false (b ++ (w ++ r)) = b.length) (hx : nextS (w ++ r) = some x) (hl : x.len = w.length) : wordsV (b ++ (w ++ r)) p = (wordsV r (p + b.length + w.length)).map (x.tok (p + b.length) :: ·) := by
  have hpos := nextS_len hx
  unfold wordsV
  rw [scS, hb]
  rw [if_neg (by simp at hpos ⊢; omega), List.drop_left, hx]
  simp only
  rw [hl, show b.length + w.length = (b ++ w).length by simp, ← List.append_assoc, List.drop_left]
  rw [scS_fuel ((b ++ w ++ r).length) (r.length + 1) r _ (by rw [hl] at hpos; simp; omega) (by omega)]
theorem wordsV_nil {b : List Int} {p : Nat} (hb : b.length ≤ blC false b) : wordsV b p = some [] := by
  unfold wordsV; rw [scS, if_pos hb]
end Go.Proofs.YtejefchehdifhaaDoor.Ev
end
section
set_option linter.unusedVariables false
set_option linter.unusedSimpArgs false
namespace Go.Proofs.YtejefchehdifhaaDoor.Ev
open Go
theorem strF_plain : ∀ (L r acc : List Int) (f k : Nat), (∀ c ∈ L, c ≠ 34 ∧ c ≠ 92) → L.length < f → strF f (L ++ 34 :: r) acc k = some (acc ++ L, k + L.length + 1)
  | [], r, acc, 0, k, h, hf => by omega
  | [], r, acc, f + 1, k, h, hf => by unfold strF; simp
  | c :: L, r, acc, 0, k, h, hf => by omega
  | c :: L, r, acc, f + 1, k, h, hf => by
    have hc := h c List.mem_cons_self
    rw [List.cons_append]
    unfold strF
    rw [if_neg hc.1, if_pos hc.2, strF_plain L r _ f _ (fun x hx => h x (List.mem_cons_of_mem _ hx)) (by simp at hf; omega)]
    simp
    omega
theorem scal_ascii {L : List Int} (h : ∀ c ∈ L, 0 ≤ c ∧ c < 128) : Scals L := fun c hc => by
  have := h c hc
  unfold scalB; simp; omega
theorem chs_ascii : ∀ (f at_ : Nat) (l acc : List Int), (∀ c ∈ l, 0 ≤ c ∧ c < 128) → l.length - at_ < f → at_ ≤ l.length → chs f l at_ acc = (acc ++ l.drop at_, -1)
  | 0, at_, l, acc, h, hf, hl => by omega
  | f + 1, at_, l, acc, h, hf, hl => by
    unfold chs
    by_cases hc : l.length ≤ at_
    · rw [if_pos hc, List.drop_eq_nil_of_le hc, List.append_nil]
    · rw [if_neg hc]
      have hlt : at_ < l.length := by omega
      have hx := h _ (List.getElem_mem hlt)
      rw [← rd_at l at_ hlt] at hx
      rw [drop_rd' l at_ hlt, ch1_ascii hx.2]
      simp only
      rw [if_neg (by omega)]
      have := chs_ascii f (at_ + 1) l (acc ++ [rd l at_]) h (by omega) (by omega)
      rw [show (1 : Int).toNat = 1 from rfl, this]
      simp
theorem chars_ascii {l : List Int} (h : ∀ c ∈ l, 0 ≤ c ∧ c < 128) : chars l = (l, -1) := by
  unfold chars
  rw [chs_ascii _ _ _ _ h (by omega) (by omega)]
  simp
theorem chL_ascii {l : List Int} (h : ∀ c ∈ l, 0 ≤ c ∧ c < 128) : chL l = l := by
  unfold chL; rw [chars_ascii h]; rfl
theorem bytes_ascii {l : List Int} (h : ∀ c ∈ l, 0 ≤ c ∧ c < 128) : Bytes l := fun c hc => by have := h c hc; omega
def sgW (k : Nat) : List Int := match k with
  | 0 => [40]
  | 1 => [41]
  | 2 => [35, 40]
  | 3 => [35, 59]
  | 4 => [39]
  | 5 => [44]
  | 6 => [44, 64]
  | 7 => [35, 39]
  | 8 => [35, 44]
  | 9 => [35, 44, 64]
  | 10 => [97]
  | 11 => [45, 53]
  | 12 => [35, 116]
  | 13 => [34, 120, 32, 121, 34]
  | 14 => [35, 92, 97]
  | 15 => [46, 46, 46]
  | 16 => [43]
  | _ => []
def sgK (k : Nat) : Int := match k with
  | 0 => 1
  | 1 => 2
  | 2 => 3
  | 3 => 5
  | 4 => 6
  | 5 => 6
  | 6 => 6
  | 7 => 6
  | 8 => 6
  | 9 => 6
  | 10 => 7
  | 11 => 7
  | 12 => 7
  | 13 => 7
  | 14 => 7
  | 15 => 7
  | 16 => 7
  | _ => 0
theorem sgW_ascii : ∀ k : Fin 17, (sgW k.val).all (fun c => decide (0 ≤ c ∧ c < 128)) = true := by decide
theorem sgW_in {k : Nat} (hk : k < 17) : ∀ c ∈ sgW k, 0 ≤ c ∧ c < 128 := fun c hc => by
  have h := sgW_ascii ⟨k, hk⟩
  rw [List.all_eq_true] at h
  simpa using h c hc
theorem untilN_cons (c : Int) (r : List Int) (h : endsB c = false) : untilN (c :: r) = untilN r + 1 := by
  rw [untilN, if_neg (by rw [h]; simp)]
theorem untilN_32 (r : List Int) : untilN (32 :: r) = 0 := rfl
theorem nx0 (r : List Int) : nextS (40 :: 32 :: r) = some ⟨1, [], 0, [], false, [], 1⟩ := by
  have h : signP (40 :: 32 :: r) = (1, [], 1) := by
    unfold signP
    simp [pkL_zero, pkL_succ]
  unfold nextS
  rw [h]; rfl
theorem nx1 (r : List Int) : nextS (41 :: 32 :: r) = some ⟨2, [], 0, [], false, [], 1⟩ := by
  have h : signP (41 :: 32 :: r) = (2, [], 1) := by
    unfold signP
    simp [pkL_zero, pkL_succ]
  unfold nextS
  rw [h]; rfl
theorem nx2 (r : List Int) : nextS (35 :: 40 :: 32 :: r) = some ⟨3, [], 0, [], false, [], 2⟩ := by
  have h : signP (35 :: 40 :: 32 :: r) = (3, [], 2) := by
    unfold signP
    simp [pkL_zero, pkL_succ]
  unfold nextS
  rw [h]; rfl
theorem nx3 (r : List Int) : nextS (35 :: 59 :: 32 :: r) = some ⟨5, [], 0, [], false, [], 2⟩ := by
  have h : signP (35 :: 59 :: 32 :: r) = (5, [], 2) := by
    unfold signP
    simp [pkL_zero, pkL_succ]
  unfold nextS
  rw [h]; rfl
theorem nx4 (r : List Int) : nextS (39 :: 32 :: r) = some ⟨6, [113, 117, 111, 116, 101], 0, [], false, [], 1⟩ := by
  have h : signP (39 :: 32 :: r) = (6, [113, 117, 111, 116, 101], 1) := by
    unfold signP
    simp [pkL_zero, pkL_succ]
  unfold nextS
  rw [h]; rfl
theorem nx5 (r : List Int) : nextS (44 :: 32 :: r) = some ⟨6, [117, 110, 113, 117, 111, 116, 101], 0, [], false, [], 1⟩ := by
  have h : signP (44 :: 32 :: r) = (6, [117, 110, 113, 117, 111, 116, 101], 1) := by
    unfold signP
    simp [pkL_zero, pkL_succ]
  unfold nextS
  rw [h]; rfl
theorem nx6 (r : List Int) : nextS (44 :: 64 :: 32 :: r) = some ⟨6, [117, 110, 113, 117, 111, 116, 101, 45, 115, 112, 108, 105, 99, 105, 110, 103], 0, [], false, [], 2⟩ := by
  have h : signP (44 :: 64 :: 32 :: r) = (6, [117, 110, 113, 117, 111, 116, 101, 45, 115, 112, 108, 105, 99, 105, 110, 103], 2) := by
    unfold signP
    simp [pkL_zero, pkL_succ]
  unfold nextS
  rw [h]; rfl
theorem nx7 (r : List Int) : nextS (35 :: 39 :: 32 :: r) = some ⟨6, [115, 121, 110, 116, 97, 120], 0, [], false, [], 2⟩ := by
  have h : signP (35 :: 39 :: 32 :: r) = (6, [115, 121, 110, 116, 97, 120], 2) := by
    unfold signP
    simp [pkL_zero, pkL_succ]
  unfold nextS
  rw [h]; rfl
theorem nx8 (r : List Int) : nextS (35 :: 44 :: 32 :: r) = some ⟨6, [117, 110, 115, 121, 110, 116, 97, 120], 0, [], false, [], 2⟩ := by
  have h : signP (35 :: 44 :: 32 :: r) = (6, [117, 110, 115, 121, 110, 116, 97, 120], 2) := by
    unfold signP
    simp [pkL_zero, pkL_succ]
  unfold nextS
  rw [h]; rfl
theorem nx9 (r : List Int) : nextS (35 :: 44 :: 64 :: 32 :: r) = some ⟨6, [117, 110, 115, 121, 110, 116, 97, 120, 45, 115, 112, 108, 105, 99, 105, 110, 103], 0, [], false, [], 3⟩ := by
  have h : signP (35 :: 44 :: 64 :: 32 :: r) = (6, [117, 110, 115, 121, 110, 116, 97, 120, 45, 115, 112, 108, 105, 99, 105, 110, 103], 3) := by
    unfold signP
    simp [pkL_zero, pkL_succ]
  unfold nextS
  rw [h]; rfl
theorem nx10 (r : List Int) : ∃ s n l, nextS (97 :: 32 :: r) = some ⟨7, [], 4, s, n, l, 1⟩ := by
  have h : signP (97 :: 32 :: r) = (0, [], 0) := by
    unfold signP
    simp [pkL_zero, pkL_succ, endsB]
  have hu : untilN (97 :: 32 :: r) = 1 := by
    rw [untilN_cons _ _ (by decide), untilN_32]
  refine ⟨atomS (enc [97]), atomN (enc [97]), atomL (enc [97]), ?_⟩
  unfold nextS
  rw [h]
  simp only
  rw [if_neg (by simp)]
  unfold datS datV
  rw [pkL_zero, if_neg (by decide), pkL_succ, if_neg (by first | (simp [pkL_zero]; done) | decide), hu]
  have ha : atomK (enc [97]) = 4 := by decide +kernel
  have ht : (97 :: 32 :: r).take 1 = [97] := rfl
  rw [ht, ha, if_pos (by decide)]
  rfl
theorem nx11 (r : List Int) : ∃ s n l, nextS (45 :: 53 :: 32 :: r) = some ⟨7, [], 7, s, n, l, 2⟩ := by
  have h : signP (45 :: 53 :: 32 :: r) = (0, [], 0) := by
    unfold signP
    simp [pkL_zero, pkL_succ, endsB]
  have hu : untilN (45 :: 53 :: 32 :: r) = 2 := by
    rw [untilN_cons _ _ (by decide), untilN_cons _ _ (by decide), untilN_32]
  refine ⟨atomS (enc [45, 53]), atomN (enc [45, 53]), atomL (enc [45, 53]), ?_⟩
  unfold nextS
  rw [h]
  simp only
  rw [if_neg (by simp)]
  unfold datS datV
  rw [pkL_zero, if_neg (by decide), pkL_succ, if_neg (by first | (simp [pkL_zero]; done) | decide), hu]
  have ha : atomK (enc [45, 53]) = 7 := by decide +kernel
  have ht : (45 :: 53 :: 32 :: r).take 2 = [45, 53] := rfl
  rw [ht, ha, if_pos (by decide)]
  rfl
theorem nx12 (r : List Int) : ∃ s n l, nextS (35 :: 116 :: 32 :: r) = some ⟨7, [], 8, s, n, l, 2⟩ := by
  have h : signP (35 :: 116 :: 32 :: r) = (0, [], 0) := by
    unfold signP
    simp [pkL_zero, pkL_succ, endsB]
  have hu : untilN (35 :: 116 :: 32 :: r) = 2 := by
    rw [untilN_cons _ _ (by decide), untilN_cons _ _ (by decide), untilN_32]
  refine ⟨atomS (enc [35, 116]), atomN (enc [35, 116]), atomL (enc [35, 116]), ?_⟩
  unfold nextS
  rw [h]
  simp only
  rw [if_neg (by simp)]
  unfold datS datV
  rw [pkL_zero, if_neg (by decide), pkL_succ, if_neg (by first | (simp [pkL_zero]; done) | decide), hu]
  have ha : atomK (enc [35, 116]) = 8 := by decide +kernel
  have ht : (35 :: 116 :: 32 :: r).take 2 = [35, 116] := rfl
  rw [ht, ha, if_pos (by decide)]
  rfl
theorem nx13 (r : List Int) : nextS (34 :: 120 :: 32 :: 121 :: 34 :: 32 :: r) = some ⟨7, [], 5, [120, 32, 121], false, [], 5⟩ := by
  have h : signP (34 :: 120 :: 32 :: 121 :: 34 :: 32 :: r) = (0, [], 0) := by
    unfold signP
    simp [pkL_zero, pkL_succ]
  unfold nextS
  rw [h]
  simp only
  rw [if_neg (by simp)]
  unfold datS datV
  rw [pkL_zero, if_pos rfl]
  have hs := strF_plain [120, 32, 121] (32 :: r) [] ((34 :: 120 :: 32 :: 121 :: 34 :: 32 :: r).length + 1) (0 + 1) (by intro c hc; simp at hc; omega) (by simp)
  have e : [120, 32, 121] ++ 34 :: 32 :: r = (34 :: 120 :: 32 :: 121 :: 34 :: 32 :: r).drop 1 := rfl
  rw [← e, hs]
  rfl
theorem nx14 (r : List Int) : nextS (35 :: 92 :: 97 :: 32 :: r) = some ⟨7, [], 6, [97], false, [], 3⟩ := by
  have h : signP (35 :: 92 :: 97 :: 32 :: r) = (0, [], 0) := by
    unfold signP
    simp [pkL_zero, pkL_succ]
  unfold nextS
  rw [h]
  simp only
  rw [if_neg (by simp)]
  unfold datS datV
  rw [pkL_zero, if_neg (by decide), pkL_succ, pkL_zero, if_pos ⟨rfl, rfl⟩]
  have hd : (35 :: 92 :: 97 :: 32 :: r).drop 2 = 97 :: 32 :: r := rfl
  have hN : chN_ (97 :: 32 :: r) = 1 := rfl
  have hB : chB (97 :: 32 :: r) = [97] := by unfold chB; rw [hN]; rfl
  have hV : chV (97 :: 32 :: r) = 97 := by
    unfold chV
    rw [if_neg (by simp), hB]
    decide +kernel
  have hQ : chQ (97 :: 32 :: r) = 1 := by unfold chQ; rw [if_neg (by simp), hN]
  rw [hd, hV, hQ]
  rfl
theorem nx15 (r : List Int) : ∃ s n l, nextS (46 :: 46 :: 46 :: 32 :: r) = some ⟨7, [], 4, s, n, l, 3⟩ := by
  have h : signP (46 :: 46 :: 46 :: 32 :: r) = (0, [], 0) := by
    unfold signP
    simp [pkL_zero, pkL_succ, endsB]
  have hu : untilN (46 :: 46 :: 46 :: 32 :: r) = 3 := by
    rw [untilN_cons _ _ (by decide), untilN_cons _ _ (by decide), untilN_cons _ _ (by decide), untilN_32]
  refine ⟨atomS (enc [46, 46, 46]), atomN (enc [46, 46, 46]), atomL (enc [46, 46, 46]), ?_⟩
  unfold nextS
  rw [h]
  simp only
  rw [if_neg (by simp)]
  unfold datS datV
  rw [pkL_zero, if_neg (by decide), pkL_succ, if_neg (by first | (simp [pkL_zero]; done) | decide), hu]
  have ha : atomK (enc [46, 46, 46]) = 4 := by decide +kernel
  have ht : (46 :: 46 :: 46 :: 32 :: r).take 3 = [46, 46, 46] := rfl
  rw [ht, ha, if_pos (by decide)]
  rfl
theorem nx16 (r : List Int) : ∃ s n l, nextS (43 :: 32 :: r) = some ⟨7, [], 4, s, n, l, 1⟩ := by
  have h : signP (43 :: 32 :: r) = (0, [], 0) := by
    unfold signP
    simp [pkL_zero, pkL_succ, endsB]
  have hu : untilN (43 :: 32 :: r) = 1 := by
    rw [untilN_cons _ _ (by decide), untilN_32]
  refine ⟨atomS (enc [43]), atomN (enc [43]), atomL (enc [43]), ?_⟩
  unfold nextS
  rw [h]
  simp only
  rw [if_neg (by simp)]
  unfold datS datV
  rw [pkL_zero, if_neg (by decide), pkL_succ, if_neg (by first | (simp [pkL_zero]; done) | decide), hu]
  have ha : atomK (enc [43]) = 4 := by decide +kernel
  have ht : (43 :: 32 :: r).take 1 = [43] := rfl
  rw [ht, ha, if_pos (by decide)]
  rfl
theorem nextS_word : ∀ (k : Nat) (r : List Int), k < 17 → ∃ x, nextS (sgW k ++ 32 :: r) = some x ∧ x.kind = sgK k ∧ x.len = (sgW k).length
  | 0, r, _ => ⟨_, nx0 r, rfl, rfl⟩
  | 1, r, _ => ⟨_, nx1 r, rfl, rfl⟩
  | 2, r, _ => ⟨_, nx2 r, rfl, rfl⟩
  | 3, r, _ => ⟨_, nx3 r, rfl, rfl⟩
  | 4, r, _ => ⟨_, nx4 r, rfl, rfl⟩
  | 5, r, _ => ⟨_, nx5 r, rfl, rfl⟩
  | 6, r, _ => ⟨_, nx6 r, rfl, rfl⟩
  | 7, r, _ => ⟨_, nx7 r, rfl, rfl⟩
  | 8, r, _ => ⟨_, nx8 r, rfl, rfl⟩
  | 9, r, _ => ⟨_, nx9 r, rfl, rfl⟩
  | 10, r, _ => by obtain ⟨s, n, l, h⟩ := nx10 r; exact ⟨_, h, rfl, rfl⟩
  | 11, r, _ => by obtain ⟨s, n, l, h⟩ := nx11 r; exact ⟨_, h, rfl, rfl⟩
  | 12, r, _ => by obtain ⟨s, n, l, h⟩ := nx12 r; exact ⟨_, h, rfl, rfl⟩
  | 13, r, _ => ⟨_, nx13 r, rfl, rfl⟩
  | 14, r, _ => ⟨_, nx14 r, rfl, rfl⟩
  | 15, r, _ => by obtain ⟨s, n, l, h⟩ := nx15 r; exact ⟨_, h, rfl, rfl⟩
  | 16, r, _ => by obtain ⟨s, n, l, h⟩ := nx16 r; exact ⟨_, h, rfl, rfl⟩
  | k + 17, r, h => by omega
theorem sgW_head : ∀ (k : Nat), k < 17 → ∃ c r, sgW k = c :: r ∧ blankB c = false ∧ c ≠ 59
  | 0, _ => ⟨_, _, rfl, by decide, by decide⟩
  | 1, _ => ⟨_, _, rfl, by decide, by decide⟩
  | 2, _ => ⟨_, _, rfl, by decide, by decide⟩
  | 3, _ => ⟨_, _, rfl, by decide, by decide⟩
  | 4, _ => ⟨_, _, rfl, by decide, by decide⟩
  | 5, _ => ⟨_, _, rfl, by decide, by decide⟩
  | 6, _ => ⟨_, _, rfl, by decide, by decide⟩
  | 7, _ => ⟨_, _, rfl, by decide, by decide⟩
  | 8, _ => ⟨_, _, rfl, by decide, by decide⟩
  | 9, _ => ⟨_, _, rfl, by decide, by decide⟩
  | 10, _ => ⟨_, _, rfl, by decide, by decide⟩
  | 11, _ => ⟨_, _, rfl, by decide, by decide⟩
  | 12, _ => ⟨_, _, rfl, by decide, by decide⟩
  | 13, _ => ⟨_, _, rfl, by decide, by decide⟩
  | 14, _ => ⟨_, _, rfl, by decide, by decide⟩
  | 15, _ => ⟨_, _, rfl, by decide, by decide⟩
  | 16, _ => ⟨_, _, rfl, by decide, by decide⟩
  | k + 17, h => by omega
theorem bl_word {k : Nat} (hk : k < 17) (r : List Int) : blC false (sgW k ++ r) = 0 ∧ blC false (32 :: (sgW k ++ r)) = 1 := by
  obtain ⟨c, w, h1', h2, h3⟩ := sgW_head k hk
  have e : blC false (sgW k ++ r) = 0 := by
    rw [h1', List.cons_append, blC, if_neg (by rw [h2]; simp), if_neg h3]
  refine ⟨e, ?_⟩
  rw [blC, if_pos (by decide), e]
def wtxt (ps : List Nat) : List Int := (ps.map fun k => sgW k ++ [32]).flatten
theorem wtxt_ascii {ps : List Nat} (h : ∀ k ∈ ps, k < 17) : ∀ c ∈ wtxt ps, 0 ≤ c ∧ c < 128 := by
  intro c hc
  unfold wtxt at hc
  rw [List.mem_flatten] at hc
  obtain ⟨l, hl, hc⟩ := hc
  rw [List.mem_map] at hl
  obtain ⟨k, hk, rfl⟩ := hl
  rcases List.mem_append.1 hc with hc | hc
  · exact sgW_in (h k hk) c hc
  · simp at hc; omega
theorem words_are : ∀ (ps : List Nat) (p : Nat) (b : List Int), (∀ k ∈ ps, k < 17) → b = [] ∨ b = [32] → ∃ L, wordsV (b ++ wtxt ps) p = some L ∧ L.length = ps.length ∧
    ∀ (i : Nat) (h : i < L.length) (h2 : i < ps.length), (L[i]).kind = sgK ps[i] ∧ (L[i]).at_ = p + b.length + (wtxt (ps.take i)).length
  | [], p, b, hk, hb => by
    refine ⟨[], wordsV_nil ?_, rfl, fun i h => by simp at h⟩
    rcases hb with rfl | rfl <;> simp [wtxt] <;> decide
  | k :: ps, p, b, hk, hb => by
    have hk1 := hk k List.mem_cons_self
    obtain ⟨x, hx, hx1, hx2⟩ := nextS_word k (wtxt ps) hk1
    obtain ⟨L, hL, hl, hall⟩ := words_are ps (p + b.length + (sgW k).length) [32] (fun j hj => hk j (List.mem_cons_of_mem _ hj)) (.inr rfl)
    have e : wtxt (k :: ps) = sgW k ++ (32 :: wtxt ps) := by simp [wtxt]
    have hbl : blC false (b ++ (sgW k ++ (32 :: wtxt ps))) = b.length := by
      rcases hb with rfl | rfl
      · exact (bl_word hk1 _).1
      · exact (bl_word hk1 _).2
    rw [e, wordsV_cons hbl hx hx2]
    rw [show (32 :: wtxt ps) = [32] ++ wtxt ps from rfl, hL]
    refine ⟨_, rfl, by simp [hl], fun i h h2 => ?_⟩
    cases i with
    | zero => exact ⟨hx1, by simp [wtxt, Wd.tok]⟩
    | succ i =>
      have := hall i (by simpa using h) (by simpa using h2)
      simp only [List.getElem_cons_succ]
      refine ⟨this.1, ?_⟩
      rw [this.2]
      have e2 : wtxt ((k :: ps).take (i + 1)) = sgW k ++ (32 :: wtxt (ps.take i)) := by simp [wtxt]
      rw [e2]
      simp
      omega
end Go.Proofs.YtejefchehdifhaaDoor.Ev
end
section
set_option linter.unusedVariables false
set_option maxRecDepth 100000
namespace Go.Proofs.YtejefchehdifhaaDoor.Ev
open Go
def law03_TokenWords_lv : List Nat → Keep := lvOf [([0, 1, 0, 1, 1, 1, 1, 1], ⟨121, 0, [], false, false⟩), ([0, 1, 0, 1, 1, 1, 1, 1, 1, 1, 1, 1], ⟨3225, 0, [], false, false⟩)]
def law03_TokenWords_S0 (picks : List (List FV)) (text : ByteArray) (i : Int) : St := (St.mk [(TV.one (AV.fz (FV.sl 1 picks))), TV.und, TV.und, (TV.one (AV.ofl 1 0)), (TV.one (AV.ofl 1 1)), (TV.one (AV.fz (FV.str text))), (TV.one (AV.fz (FV.int .i64 i))), TV.und, TV.und, TV.und, TV.und, TV.und, TV.und, TV.und, TV.und, TV.und, TV.und, TV.und, TV.und, TV.und, TV.und, TV.und, TV.und, TV.und, TV.und, TV.und, TV.und, TV.und, TV.und, TV.und, TV.und, TV.und, TV.und, TV.und, TV.und, TV.und, TV.und, TV.und, TV.und, TV.und, TV.und, TV.und, TV.und, TV.und, TV.und, TV.und, TV.und, TV.und, TV.und, TV.und, TV.und, TV.und, TV.und, TV.und, TV.und, TV.und, TV.und, TV.und, TV.und, TV.und, TV.und, TV.und, TV.und, TV.und, TV.und, TV.und, TV.und, TV.und, TV.und, TV.und, TV.und, TV.und, TV.und, TV.und, TV.und, TV.und, TV.und, TV.und, TV.und, TV.und, TV.und, TV.und, TV.und, TV.und, TV.und, TV.und, TV.und, TV.und, TV.und, TV.und, TV.und, TV.und, TV.und, TV.und, TV.und, TV.und] [(Ob.f 9 1 [[(FV.str (ByteArray.mk #[40]))], [(FV.str (ByteArray.mk #[41]))], [(FV.str (ByteArray.mk #[35, 40]))], [(FV.str (ByteArray.mk #[35, 59]))], [(FV.str (ByteArray.mk #[39]))], [(FV.str (ByteArray.mk #[44]))], [(FV.str (ByteArray.mk #[44, 64]))], [(FV.str (ByteArray.mk #[35, 39]))], [(FV.str (ByteArray.mk #[35, 44]))], [(FV.str (ByteArray.mk #[35, 44, 64]))], [(FV.str (ByteArray.mk #[97]))], [(FV.str (ByteArray.mk #[45, 53]))], [(FV.str (ByteArray.mk #[35, 116]))], [(FV.str (ByteArray.mk #[34, 120, 32, 121, 34]))], [(FV.str (ByteArray.mk #[35, 92, 97]))], [(FV.str (ByteArray.mk #[46, 46, 46]))], [(FV.str (ByteArray.mk #[43]))]]), (Ob.f 3 1 [[(FV.int .i64 1)], [(FV.int .i64 2)], [(FV.int .i64 3)], [(FV.int .i64 5)], [(FV.int .i64 6)], [(FV.int .i64 6)], [(FV.int .i64 6)], [(FV.int .i64 6)], [(FV.int .i64 6)], [(FV.int .i64 6)], [(FV.int .i64 7)], [(FV.int .i64 7)], [(FV.int .i64 7)], [(FV.int .i64 7)], [(FV.int .i64 7)], [(FV.int .i64 7)], [(FV.int .i64 7)]])])
def law03_TokenWords_L0 (R : TV → List Ob → Prop) (picks : List (List FV)) (text : ByteArray) (i : Int) : Prop := LoopAt Tryd.prog (modeOf [7] []) law03_TokenWords_lv Tryd.f6 none R [1, 1, 1, 1, 1, 0, 1, 0] (law03_TokenWords_S0 picks text i)
def law03_TokenWords_S1 (picks : List (List FV)) (es1 : List (List FV)) (at_ : Int) (i1 : Int) : St := (St.mk [(TV.one (AV.fz (FV.sl 1 picks))), TV.und, TV.und, (TV.one (AV.ofl 1 0)), (TV.one (AV.ofl 1 1)), TV.und, TV.und, (TV.one (AV.fz (FV.sl 9 es1))), TV.und, TV.und, (TV.one (AV.fz (FV.int .i64 at_))), (TV.one (AV.fz (FV.int .i64 i1))), TV.und, TV.und, TV.und, TV.und, TV.und, TV.und, TV.und, TV.und, TV.und, TV.und, TV.und, TV.und, TV.und, TV.und, TV.und, TV.und, TV.und, TV.und, TV.und, TV.und, TV.und, TV.und, TV.und, TV.und, TV.und, TV.und, TV.und, TV.und, TV.und, TV.und, TV.und, TV.und, TV.und, TV.und, TV.und, TV.und, TV.und, TV.und, TV.und, TV.und, TV.und, TV.und, TV.und, TV.und, TV.und, TV.und, TV.und, TV.und, TV.und, TV.und, TV.und, TV.und, TV.und, TV.und, TV.und, TV.und, TV.und, TV.und, TV.und, TV.und, TV.und, TV.und, TV.und, TV.und, TV.und, TV.und, TV.und, TV.und, TV.und, TV.und, TV.und, TV.und, TV.und, TV.und, TV.und, TV.und, TV.und, TV.und, TV.und, TV.und, TV.und, TV.und, TV.und, TV.und] [(Ob.f 9 1 [[(FV.str (ByteArray.mk #[40]))], [(FV.str (ByteArray.mk #[41]))], [(FV.str (ByteArray.mk #[35, 40]))], [(FV.str (ByteArray.mk #[35, 59]))], [(FV.str (ByteArray.mk #[39]))], [(FV.str (ByteArray.mk #[44]))], [(FV.str (ByteArray.mk #[44, 64]))], [(FV.str (ByteArray.mk #[35, 39]))], [(FV.str (ByteArray.mk #[35, 44]))], [(FV.str (ByteArray.mk #[35, 44, 64]))], [(FV.str (ByteArray.mk #[97]))], [(FV.str (ByteArray.mk #[45, 53]))], [(FV.str (ByteArray.mk #[35, 116]))], [(FV.str (ByteArray.mk #[34, 120, 32, 121, 34]))], [(FV.str (ByteArray.mk #[35, 92, 97]))], [(FV.str (ByteArray.mk #[46, 46, 46]))], [(FV.str (ByteArray.mk #[43]))]]), (Ob.f 3 1 [[(FV.int .i64 1)], [(FV.int .i64 2)], [(FV.int .i64 3)], [(FV.int .i64 5)], [(FV.int .i64 6)], [(FV.int .i64 6)], [(FV.int .i64 6)], [(FV.int .i64 6)], [(FV.int .i64 6)], [(FV.int .i64 6)], [(FV.int .i64 7)], [(FV.int .i64 7)], [(FV.int .i64 7)], [(FV.int .i64 7)], [(FV.int .i64 7)], [(FV.int .i64 7)], [(FV.int .i64 7)]])])
def law03_TokenWords_L1 (R : TV → List Ob → Prop) (picks : List (List FV)) (es1 : List (List FV)) (at_ : Int) (i1 : Int) : Prop := LoopAt Tryd.prog (modeOf [7] []) law03_TokenWords_lv Tryd.f6 none R [1, 1, 1, 1, 1, 1, 1, 1, 1, 0, 1, 0] (law03_TokenWords_S1 picks es1 at_ i1)
def law03_TokenWords_R0 (R : TV → List Ob → Prop) (picks : List (List FV)) (text : ByteArray) (i : Int) : Prop :=
  ((((decide (i < (((List.length picks) : Nat) : Int))) = true) → (((0 : Int) ≤ i) ∧ (∃ n26 : Int, (((picks)[(Int.toNat i)]? = (some [(FV.int .u8 n26)])) ∧ (((17 : Int) ≠ 0) ∧ ((((0 : Int) ≤ (Int.tmod (IntKind.wrap .i64 n26) 17)) ∧ ((Int.tmod (IntKind.wrap .i64 n26) 17) < (((List.length [[(FV.str (ByteArray.mk #[40]))], [(FV.str (ByteArray.mk #[41]))], [(FV.str (ByteArray.mk #[35, 40]))], [(FV.str (ByteArray.mk #[35, 59]))], [(FV.str (ByteArray.mk #[39]))], [(FV.str (ByteArray.mk #[44]))], [(FV.str (ByteArray.mk #[44, 64]))], [(FV.str (ByteArray.mk #[35, 39]))], [(FV.str (ByteArray.mk #[35, 44]))], [(FV.str (ByteArray.mk #[35, 44, 64]))], [(FV.str (ByteArray.mk #[97]))], [(FV.str (ByteArray.mk #[45, 53]))], [(FV.str (ByteArray.mk #[35, 116]))], [(FV.str (ByteArray.mk #[34, 120, 32, 121, 34]))], [(FV.str (ByteArray.mk #[35, 92, 97]))], [(FV.str (ByteArray.mk #[46, 46, 46]))], [(FV.str (ByteArray.mk #[43]))]]) : Nat) : Int))) ∧ (∃ s12 : ByteArray, ((([[(FV.str (ByteArray.mk #[40]))], [(FV.str (ByteArray.mk #[41]))], [(FV.str (ByteArray.mk #[35, 40]))], [(FV.str (ByteArray.mk #[35, 59]))], [(FV.str (ByteArray.mk #[39]))], [(FV.str (ByteArray.mk #[44]))], [(FV.str (ByteArray.mk #[44, 64]))], [(FV.str (ByteArray.mk #[35, 39]))], [(FV.str (ByteArray.mk #[35, 44]))], [(FV.str (ByteArray.mk #[35, 44, 64]))], [(FV.str (ByteArray.mk #[97]))], [(FV.str (ByteArray.mk #[45, 53]))], [(FV.str (ByteArray.mk #[35, 116]))], [(FV.str (ByteArray.mk #[34, 120, 32, 121, 34]))], [(FV.str (ByteArray.mk #[35, 92, 97]))], [(FV.str (ByteArray.mk #[46, 46, 46]))], [(FV.str (ByteArray.mk #[43]))]])[(Int.toNat (Int.tmod (IntKind.wrap .i64 n26) 17))]? = (some [(FV.str s12)])) ∧ ((((ByteArray.size text) + (ByteArray.size s12)) ≤ 9223372036854775807) ∧ ((((ByteArray.size (text ++ s12)) + (ByteArray.size (ByteArray.mk #[32]))) ≤ 9223372036854775807) ∧ (law03_TokenWords_L0 R picks ((text ++ s12) ++ (ByteArray.mk #[32])) (IntKind.wrap .i64 (i + 1))))))))))))) ∧ (((decide (i < (((List.length picks) : Nat) : Int))) = false) → (∃ es12 : List (List FV), ((Fn Tryd.prog 7 [(TV.one (AV.fz (FV.str text)))] [] (TV.one (AV.ofl 1 0)) [(Ob.f 0 1 es12)]) ∧ (∃ es13 : List (List FV), (∃ n27 : Int, (∃ n28 : Int, ((Fn Tryd.prog 8 [(TV.one (AV.fz (FV.sl 1 es12)))] [] (TV.tup [(false, [(AV.fz (FV.sl 9 es13))]), (false, [(AV.fz (FV.int .i64 n27))]), (false, [(AV.fz (FV.int .i64 n28))])]) []) ∧ (∃ b7 : Bool, ((Fn Tryd.prog 9 [] [] (TV.one (AV.fz (FV.bool b7))) []) ∧ ((((Bool.not b7) = true) → (R (TV.one (AV.fz (FV.bool false))) [])) ∧ (((Bool.not b7) = false) → ((((n28 != 0) = true) → (R (TV.one (AV.fz (FV.bool false))) [])) ∧ (((n28 != 0) = false) → (((((((List.length es13) : Nat) : Int) != (((List.length picks) : Nat) : Int)) = true) → (R (TV.one (AV.fz (FV.bool false))) [])) ∧ ((((((List.length es13) : Nat) : Int) != (((List.length picks) : Nat) : Int)) = false) → (law03_TokenWords_L1 R picks es13 0 0)))))))))))))))))
theorem law03_TokenWords_l0 {R : TV → List Ob → Prop} {picks : List (List FV)} {text : ByteArray} {i : Int} (h : law03_TokenWords_R0 R picks text i) : law03_TokenWords_L0 R picks text i :=
  LoopAt.by_tr (by kernel_rfl) (by kernel_rfl) h
def law03_TokenWords_R1 (R : TV → List Ob → Prop) (picks : List (List FV)) (es1 : List (List FV)) (at_ : Int) (i1 : Int) : Prop :=
  ((((decide (i1 < (((List.length es1) : Nat) : Int))) = true) → (((0 : Int) ≤ i1) ∧ (∃ n26 : Int, (((picks)[(Int.toNat i1)]? = (some [(FV.int .u8 n26)])) ∧ (((17 : Int) ≠ 0) ∧ (((0 : Int) ≤ i1) ∧ (∃ n27 : Int, (∃ s12 : ByteArray, (∃ n28 : Int, (∃ s13 : ByteArray, (∃ b7 : Bool, (∃ es12 : List (List FV), (∃ es13 : List (List FV), (∃ n29 : Int, (∃ n30 : Int, (((es1)[(Int.toNat i1)]? = (some [(FV.int .i64 n27), (FV.str s12), (FV.int .i64 n28), (FV.str s13), (FV.bool b7), (FV.sl 1 es12), (FV.sl 6 es13), (FV.int .i64 n29), (FV.int .i64 n30)])) ∧ ((((0 : Int) ≤ (Int.tmod (IntKind.wrap .i64 n26) 17)) ∧ ((Int.tmod (IntKind.wrap .i64 n26) 17) < (((List.length [[(FV.int .i64 1)], [(FV.int .i64 2)], [(FV.int .i64 3)], [(FV.int .i64 5)], [(FV.int .i64 6)], [(FV.int .i64 6)], [(FV.int .i64 6)], [(FV.int .i64 6)], [(FV.int .i64 6)], [(FV.int .i64 6)], [(FV.int .i64 7)], [(FV.int .i64 7)], [(FV.int .i64 7)], [(FV.int .i64 7)], [(FV.int .i64 7)], [(FV.int .i64 7)], [(FV.int .i64 7)]]) : Nat) : Int))) ∧ (∃ n31 : Int, ((([[(FV.int .i64 1)], [(FV.int .i64 2)], [(FV.int .i64 3)], [(FV.int .i64 5)], [(FV.int .i64 6)], [(FV.int .i64 6)], [(FV.int .i64 6)], [(FV.int .i64 6)], [(FV.int .i64 6)], [(FV.int .i64 6)], [(FV.int .i64 7)], [(FV.int .i64 7)], [(FV.int .i64 7)], [(FV.int .i64 7)], [(FV.int .i64 7)], [(FV.int .i64 7)], [(FV.int .i64 7)]])[(Int.toNat (Int.tmod (IntKind.wrap .i64 n26) 17))]? = (some [(FV.int .i64 n31)])) ∧ ((((n27 != n31) = true) → (R (TV.one (AV.fz (FV.bool false))) [])) ∧ (((n27 != n31) = false) → (((0 : Int) ≤ i1) ∧ (∃ n32 : Int, (∃ s14 : ByteArray, (∃ n33 : Int, (∃ s15 : ByteArray, (∃ b8 : Bool, (∃ es14 : List (List FV), (∃ es15 : List (List FV), (∃ n34 : Int, (∃ n35 : Int, (((es1)[(Int.toNat i1)]? = (some [(FV.int .i64 n32), (FV.str s14), (FV.int .i64 n33), (FV.str s15), (FV.bool b8), (FV.sl 1 es14), (FV.sl 6 es15), (FV.int .i64 n34), (FV.int .i64 n35)])) ∧ ((((n35 != at_) = true) → (R (TV.one (AV.fz (FV.bool false))) [])) ∧ (((n35 != at_) = false) → ((((0 : Int) ≤ (Int.tmod (IntKind.wrap .i64 n26) 17)) ∧ ((Int.tmod (IntKind.wrap .i64 n26) 17) < (((List.length [[(FV.str (ByteArray.mk #[40]))], [(FV.str (ByteArray.mk #[41]))], [(FV.str (ByteArray.mk #[35, 40]))], [(FV.str (ByteArray.mk #[35, 59]))], [(FV.str (ByteArray.mk #[39]))], [(FV.str (ByteArray.mk #[44]))], [(FV.str (ByteArray.mk #[44, 64]))], [(FV.str (ByteArray.mk #[35, 39]))], [(FV.str (ByteArray.mk #[35, 44]))], [(FV.str (ByteArray.mk #[35, 44, 64]))], [(FV.str (ByteArray.mk #[97]))], [(FV.str (ByteArray.mk #[45, 53]))], [(FV.str (ByteArray.mk #[35, 116]))], [(FV.str (ByteArray.mk #[34, 120, 32, 121, 34]))], [(FV.str (ByteArray.mk #[35, 92, 97]))], [(FV.str (ByteArray.mk #[46, 46, 46]))], [(FV.str (ByteArray.mk #[43]))]]) : Nat) : Int))) ∧ (∃ s16 : ByteArray, ((([[(FV.str (ByteArray.mk #[40]))], [(FV.str (ByteArray.mk #[41]))], [(FV.str (ByteArray.mk #[35, 40]))], [(FV.str (ByteArray.mk #[35, 59]))], [(FV.str (ByteArray.mk #[39]))], [(FV.str (ByteArray.mk #[44]))], [(FV.str (ByteArray.mk #[44, 64]))], [(FV.str (ByteArray.mk #[35, 39]))], [(FV.str (ByteArray.mk #[35, 44]))], [(FV.str (ByteArray.mk #[35, 44, 64]))], [(FV.str (ByteArray.mk #[97]))], [(FV.str (ByteArray.mk #[45, 53]))], [(FV.str (ByteArray.mk #[35, 116]))], [(FV.str (ByteArray.mk #[34, 120, 32, 121, 34]))], [(FV.str (ByteArray.mk #[35, 92, 97]))], [(FV.str (ByteArray.mk #[46, 46, 46]))], [(FV.str (ByteArray.mk #[43]))]])[(Int.toNat (Int.tmod (IntKind.wrap .i64 n26) 17))]? = (some [(FV.str s16)])) ∧ (law03_TokenWords_L1 R picks es1 (IntKind.wrap .i64 ((IntKind.wrap .i64 (at_ + (((ByteArray.size s16) : Nat) : Int))) + 1)) (IntKind.wrap .i64 (i1 + 1)))))))))))))))))))))))))))))))))))))))) ∧ (((decide (i1 < (((List.length es1) : Nat) : Int))) = false) → (R (TV.one (AV.fz (FV.bool true))) [])))
theorem law03_TokenWords_l1 {R : TV → List Ob → Prop} {picks : List (List FV)} {es1 : List (List FV)} {at_ : Int} {i1 : Int} (h : law03_TokenWords_R1 R picks es1 at_ i1) : law03_TokenWords_L1 R picks es1 at_ i1 :=
  LoopAt.by_tr (by kernel_rfl) (by kernel_rfl) h
def law03_TokenWords_H (R : TV → List Ob → Prop) (picks : List (List FV)) : Prop :=
  ((((decide ((200 : Int) < (((List.length picks) : Nat) : Int))) = true) → (∃ b7 : Bool, ((Fn Tryd.prog 9 [] [] (TV.one (AV.fz (FV.bool b7))) []) ∧ (R (TV.one (AV.fz (FV.bool b7))) [])))) ∧ (((decide ((200 : Int) < (((List.length picks) : Nat) : Int))) = false) → (law03_TokenWords_L0 R picks (ByteArray.mk #[]) 0)))
theorem law03_TokenWords_fn (picks : List (List FV)) {r : TV} {h : List Ob} (H : law03_TokenWords_H (fun r' h' => r' = r ∧ h' = h) picks) : Fn Tryd.prog 6 [(TV.one (AV.fz (FV.sl 1 picks)))] [] r h :=
  Fn.by_tr (M := (modeOf [7] [])) (lv := law03_TokenWords_lv) (own := none) (F := Tryd.f6) (by kernel_rfl) (by kernel_rfl) (by first | decide | simp) (fun _ _ h => h) (by kernel_rfl) H
end Go.Proofs.YtejefchehdifhaaDoor.Ev
end
section
set_option linter.unusedVariables false
namespace Go.Proofs.YtejefchehdifhaaDoor.Ev
open Go
def sgB (k : Nat) : ByteArray := match k with
  | 0 => ByteArray.mk #[40]
  | 1 => ByteArray.mk #[41]
  | 2 => ByteArray.mk #[35, 40]
  | 3 => ByteArray.mk #[35, 59]
  | 4 => ByteArray.mk #[39]
  | 5 => ByteArray.mk #[44]
  | 6 => ByteArray.mk #[44, 64]
  | 7 => ByteArray.mk #[35, 39]
  | 8 => ByteArray.mk #[35, 44]
  | 9 => ByteArray.mk #[35, 44, 64]
  | 10 => ByteArray.mk #[97]
  | 11 => ByteArray.mk #[45, 53]
  | 12 => ByteArray.mk #[35, 116]
  | 13 => ByteArray.mk #[34, 120, 32, 121, 34]
  | 14 => ByteArray.mk #[35, 92, 97]
  | 15 => ByteArray.mk #[46, 46, 46]
  | 16 => ByteArray.mk #[43]
  | _ => ByteArray.mk #[]
theorem sgB_eq : ∀ (k : Nat), k < 17 → sgB k = bytesOf (sgW k)
  | 0, _ => by decide +kernel
  | 1, _ => by decide +kernel
  | 2, _ => by decide +kernel
  | 3, _ => by decide +kernel
  | 4, _ => by decide +kernel
  | 5, _ => by decide +kernel
  | 6, _ => by decide +kernel
  | 7, _ => by decide +kernel
  | 8, _ => by decide +kernel
  | 9, _ => by decide +kernel
  | 10, _ => by decide +kernel
  | 11, _ => by decide +kernel
  | 12, _ => by decide +kernel
  | 13, _ => by decide +kernel
  | 14, _ => by decide +kernel
  | 15, _ => by decide +kernel
  | 16, _ => by decide +kernel
  | k + 17, h => by omega
theorem sg_tab : ∀ (k : Nat), k < 17 → ([[FV.str (ByteArray.mk #[40])], [FV.str (ByteArray.mk #[41])], [FV.str (ByteArray.mk #[35, 40])], [FV.str (ByteArray.mk #[35, 59])], [FV.str (ByteArray.mk #[39])], [FV.str (ByteArray.mk #[44])], [FV.str (ByteArray.mk #[44, 64])], [FV.str (ByteArray.mk #[35, 39])], [FV.str (ByteArray.mk #[35, 44])], [FV.str (ByteArray.mk #[35, 44, 64])], [FV.str (ByteArray.mk #[97])], [FV.str (ByteArray.mk #[45, 53])], [FV.str (ByteArray.mk #[35, 116])], [FV.str (ByteArray.mk #[34, 120, 32, 121, 34])], [FV.str (ByteArray.mk #[35, 92, 97])], [FV.str (ByteArray.mk #[46, 46, 46])], [FV.str (ByteArray.mk #[43])]] : List (List FV))[k]? = some [FV.str (sgB k)]
  | 0, _ => rfl
  | 1, _ => rfl
  | 2, _ => rfl
  | 3, _ => rfl
  | 4, _ => rfl
  | 5, _ => rfl
  | 6, _ => rfl
  | 7, _ => rfl
  | 8, _ => rfl
  | 9, _ => rfl
  | 10, _ => rfl
  | 11, _ => rfl
  | 12, _ => rfl
  | 13, _ => rfl
  | 14, _ => rfl
  | 15, _ => rfl
  | 16, _ => rfl
  | k + 17, h => by omega
theorem sg_tab2 : ∀ (k : Nat), k < 17 → ([[FV.int .i64 1], [FV.int .i64 2], [FV.int .i64 3], [FV.int .i64 5], [FV.int .i64 6], [FV.int .i64 6], [FV.int .i64 6], [FV.int .i64 6], [FV.int .i64 6], [FV.int .i64 6], [FV.int .i64 7], [FV.int .i64 7], [FV.int .i64 7], [FV.int .i64 7], [FV.int .i64 7], [FV.int .i64 7], [FV.int .i64 7]] : List (List FV))[k]? = some [FV.int .i64 (sgK k)]
  | 0, _ => rfl
  | 1, _ => rfl
  | 2, _ => rfl
  | 3, _ => rfl
  | 4, _ => rfl
  | 5, _ => rfl
  | 6, _ => rfl
  | 7, _ => rfl
  | 8, _ => rfl
  | 9, _ => rfl
  | 10, _ => rfl
  | 11, _ => rfl
  | 12, _ => rfl
  | 13, _ => rfl
  | 14, _ => rfl
  | 15, _ => rfl
  | 16, _ => rfl
  | k + 17, h => by omega
theorem sgW_le : ∀ (k : Nat), k < 17 → (sgW k).length ≤ 5
  | 0, _ => by decide
  | 1, _ => by decide
  | 2, _ => by decide
  | 3, _ => by decide
  | 4, _ => by decide
  | 5, _ => by decide
  | 6, _ => by decide
  | 7, _ => by decide
  | 8, _ => by decide
  | 9, _ => by decide
  | 10, _ => by decide
  | 11, _ => by decide
  | 12, _ => by decide
  | 13, _ => by decide
  | 14, _ => by decide
  | 15, _ => by decide
  | 16, _ => by decide
  | k + 17, h => by omega
theorem wtxt_take {ks : List Nat} {i : Nat} (h : i < ks.length) : wtxt (ks.take (i + 1)) = wtxt (ks.take i) ++ (sgW ks[i] ++ [32]) := by
  unfold wtxt
  rw [List.take_succ_eq_append_getElem h]
  simp only [List.map_append, List.flatten_append, List.map_cons, List.map_nil, List.flatten_cons, List.flatten_nil, List.append_nil]
theorem wtxt_len : ∀ {ks : List Nat}, (∀ k ∈ ks, k < 17) → (wtxt ks).length ≤ 6 * ks.length
  | [], _ => by simp [wtxt]
  | k :: ks, h => by
    have h1 := sgW_le k (h k List.mem_cons_self)
    have h2 := wtxt_len (ks := ks) (fun x hx => h x (List.mem_cons_of_mem _ hx))
    have e : wtxt (k :: ks) = sgW k ++ (32 :: wtxt ks) := by simp [wtxt]
    rw [e]
    simp
    omega
abbrev pk (ps : List Int) : List Nat := ps.map fun p => (p % 17).toNat
theorem law_TokenWords (xs : List TV) (h : TyAll Tryd.prog [41] xs) : Fn Tryd.prog 6 xs [] (.one (.fz (.bool true))) [] := by
  cases h with
  | cons h1 h =>
  cases h
  obtain ⟨ps, rfl, hps⟩ : ∃ ps, ‹TV› = fzS .u8 ps ∧ Bytes ps := by
    rcases h1 with ⟨fs, rfl, h, ds, hne⟩ | ⟨f, rfl, h⟩
    · rw [Tryd.underlying41] at hne; cases hne
    · obtain ⟨l, hl, hl2, _⟩ := h.inv_ints Tryd.underlying41 Tryd.underlying5 (by kernel_rfl)
      cases hl
      refine ⟨l, rfl, fun x hx => ?_⟩
      have := hl2 x hx
      have e1 : IntKind.min .u8 = 0 := rfl
      have e2 : IntKind.max .u8 = 255 := rfl
      omega
  refine law03_TokenWords_fn _ ?_
  obtain ⟨R, hR, hRe⟩ := exR (fzB true); rw [hRe]; clear hRe
  unfold law03_TokenWords_H
  rw [ints_len]
  refine ⟨fun _ => ⟨_, answers3_ok, hR⟩, fun hl => ?_⟩
  have hlen : ps.length ≤ 200 := by have := of_decide_eq_false hl; omega
  have hk : ∀ k ∈ pk ps, k < 17 := fun k hk => by
    rw [List.mem_map] at hk
    obtain ⟨p, _, rfl⟩ := hk
    omega
  have hpl : (pk ps).length = ps.length := by simp
  have hidx : ∀ i, i < ps.length → ∃ k, (pk ps)[i]? = some k ∧ k < 17 ∧ (Int.tmod (IntKind.wrap .i64 (rd ps i)) 17) = (k : Int) ∧ Int.toNat (Int.tmod (IntKind.wrap .i64 (rd ps i)) 17) = k := fun i hi => by
    have hb := hps.rd (by omega) i
    have e : Int.tmod (IntKind.wrap .i64 (rd ps i)) 17 = rd ps i % 17 := by
      rw [w64 (by omega) (by omega)]
      exact Int.tmod_eq_emod_of_nonneg hb.1
    refine ⟨(rd ps i % 17).toNat, by simp [some_rd hi], by omega, by rw [e]; omega, by rw [e]⟩
  obtain ⟨L, hL, hLl, hall⟩ := words_are (pk ps) 0 [] hk (.inl rfl)
  rw [List.nil_append] at hL
  have hasc := wtxt_ascii hk
  have hwl := wtxt_len hk
  have hsc := scanV_words (scal_ascii hasc) hL
  have back : ∀ (m i : Nat) , ps.length - i = m → i ≤ ps.length → law03_TokenWords_L1 R (ints .u8 ps) (toks L) (((wtxt ((pk ps).take i)).length : Nat) : Int) i := by
    intro m
    induction m with
    | zero =>
      intro i hi hle
      refine law03_TokenWords_l1 ?_
      unfold law03_TokenWords_R1
      rw [List.length_map]
      exact ⟨fun h => absurd (of_decide_eq_true h) (by omega), fun _ => hR⟩
    | succ m ih =>
      intro i hi hle
      have hlt : i < ps.length := by omega
      obtain ⟨k, g1, g2, g3, g4⟩ := hidx i hlt
      have hlt2 : i < (pk ps).length := by omega
      have hk' : (pk ps)[i] = k := by rw [List.getElem?_eq_getElem hlt2] at g1; exact Option.some.inj g1
      have hLi : i < L.length := by omega
      obtain ⟨a1, a2⟩ := hall i hLi hlt2
      have hg := tok_get hLi
      have htk := wtxt_take hlt2
      rw [hk'] at a1 htk
      generalize L[i] = x at *
      obtain ⟨xk, nm, ⟨dk, dt, dn, dl, ds, da⟩, a⟩ := x
      unfold Tok.row at hg
      simp only [Dt.row, List.cons_append, List.nil_append] at hg a1 a2
      have hsz := sgW_le k g2
      have hwl2 := wtxt_len (ks := (pk ps).take i) (fun x hx => hk x (List.mem_of_mem_take hx))
      have htl : ((pk ps).take i).length ≤ 200 := by simp; omega
      refine law03_TokenWords_l1 ?_
      unfold law03_TokenWords_R1
      rw [List.length_map]
      refine ⟨fun _ => ⟨by omega, rd ps i, by rw [Int.toNat_natCast]; simp [ints, some_rd hlt], by decide, by omega, _, _, _, _, _, _, _, _, _, hg, ?_⟩, fun h => absurd (of_decide_eq_false h) (by omega)⟩
      rw [g4, g3]
      refine ⟨⟨by omega, by simp only [List.length_cons, List.length_nil]; omega⟩, _, sg_tab2 k g2, ?_⟩
      rw [a1]
      refine ⟨fun h => absurd h (by simp), fun _ => ⟨by omega, _, _, _, _, _, _, _, _, _, hg, ?_⟩⟩
      rw [a2]
      refine ⟨fun h => absurd h (by simp), fun _ => ⟨⟨by omega, by simp only [List.length_cons, List.length_nil]; omega⟩, _, sg_tab k g2, ?_⟩⟩
      rw [sgB_eq k g2, size_of, w64 (n := (i : Int) + 1) (by omega) (by omega)]
      have := ih (i + 1) (by omega) (by omega)
      rw [htk] at this
      simp only [List.length_append, List.length_cons, List.length_nil] at this
      rw [w64 (n := (((wtxt ((pk ps).take i)).length : Nat) : Int) + (((sgW k).length : Nat) : Int)) (by omega) (by omega), w64 (by omega) (by omega)]
      rw [show (((wtxt ((pk ps).take i)).length + ((sgW k).length + (0 + 1)) : Nat) : Int) = ((wtxt ((pk ps).take i)).length : Int) + ((sgW k).length : Int) + 1 by omega] at this
      exact this
  have front : ∀ (m i : Nat), ps.length - i = m → i ≤ ps.length → law03_TokenWords_L0 R (ints .u8 ps) (bytesOf (wtxt ((pk ps).take i))) i := by
    intro m
    induction m with
    | zero =>
      intro i hi hle
      refine law03_TokenWords_l0 ?_
      unfold law03_TokenWords_R0
      rw [ints_len]
      refine ⟨fun h => absurd (of_decide_eq_true h) (by omega), fun _ => ?_⟩
      rw [show i = (pk ps).length by omega, List.take_length]
      have hC := charsO_ok (wtxt (pk ps)) (bytes_ascii hasc) (by omega)
      rw [chL_ascii hasc] at hC
      have hS := tScan_ok (wtxt (pk ps)) (by omega)
      rw [hsc] at hS
      refine ⟨_, hC, _, _, _, hS, _, answers3_ok, fun h => absurd h (by decide), fun _ => ⟨fun h => absurd h (by simp), fun _ => ?_⟩⟩
      rw [List.length_map, hLl, hpl]
      exact ⟨fun h => absurd h (by simp), fun _ => back _ 0 rfl (Nat.zero_le _)⟩
    | succ m ih =>
      intro i hi hle
      have hlt : i < ps.length := by omega
      obtain ⟨k, g1, g2, g3, g4⟩ := hidx i hlt
      have hlt2 : i < (pk ps).length := by omega
      have hk' : (pk ps)[i] = k := by rw [List.getElem?_eq_getElem hlt2] at g1; exact Option.some.inj g1
      have htk := wtxt_take hlt2
      rw [hk'] at htk
      have hsz := sgW_le k g2
      have hwl2 := wtxt_len (ks := (pk ps).take i) (fun x hx => hk x (List.mem_of_mem_take hx))
      have htl : ((pk ps).take i).length ≤ 200 := by simp; omega
      refine law03_TokenWords_l0 ?_
      unfold law03_TokenWords_R0
      rw [ints_len]
      refine ⟨fun _ => ⟨by omega, rd ps i, by rw [Int.toNat_natCast]; simp [ints, some_rd hlt], by decide, ?_⟩, fun h => absurd (of_decide_eq_false h) (by omega)⟩
      rw [g4, g3]
      refine ⟨⟨by omega, by simp only [List.length_cons, List.length_nil]; omega⟩, _, sg_tab k g2, ?_⟩
      rw [sgB_eq k g2, show ByteArray.mk #[32] = bytesOf [32] from by decide +kernel, app_of, app_of, size_of, size_of, size_of, size_of, w64 (by omega) (by omega)]
      refine ⟨by omega, by simp only [List.length_append, List.length_cons, List.length_nil]; omega, ?_⟩
      have := ih (i + 1) (by omega) (by omega)
      rw [htk, ← List.append_assoc] at this
      exact this
  exact front _ 0 rfl (Nat.zero_le _)
end Go.Proofs.YtejefchehdifhaaDoor.Ev
end
section
set_option linter.unusedVariables false
namespace Go.Proofs.YtejefchehdifhaaDoor.tokenWords
open Go.ChangeShapes Go.WideShapes Go.ChangeAt Go.RowKit Go.Joins
open Go.Proofs.YtejefchehdifhaaDoor.Ev (Ty TyAll TabAt Glob tabs closedB openedAll trodAll_below tabAt_ints_of tabAt_ifc_of tabAt_flat_of law_TokenWords)
theorem own : ownKnob Tryd.prog.godebug = none := by kernel_rfl
theorem laidOut : laidOutB Tryd.prog = true := by kernel_rfl
set_option maxRecDepth 100000 in
theorem door_met (os : Os) (args : Array Value) : laidMetH Tryd.prog Rows.tokenWordsRow.laid ((World.laidAll Tryd.prog os Rows.tokenWordsRow.laid).forCall (fun _ _ => 0) ⟨#[], args, []⟩).memory :=
  Eq.mp (show laidMet Tryd.prog Rows.tokenWordsRow.laid ((World.laidAll Tryd.prog os Rows.tokenWordsRow.laid).forCall (fun _ _ => 0) ⟨#[], args, []⟩).memory = laidMetH Tryd.prog Rows.tokenWordsRow.laid ((World.laidAll Tryd.prog os Rows.tokenWordsRow.laid).forCall (fun _ _ => 0) ⟨#[], args, []⟩).memory by kernel_rfl) (laidMet_laidAll (os := os) args (by kernel_rfl) (by kernel_rfl))
set_option maxRecDepth 100000 in
theorem glob {W : World} (hL : laidMetH Tryd.prog Rows.tokenWordsRow.laid W) : Glob W := by
  have hM : laidMet Tryd.prog Rows.tokenWordsRow.laid W := Eq.mp (by kernel_rfl) hL
  intro x hx
  simp only [tabs, List.mem_cons, List.mem_nil_iff, or_false] at hx
  rcases hx with rfl | rfl | rfl | rfl | rfl | rfl | rfl
  · exact tabAt_flat_of (n := "marginalia/token.signs") (d := Rows.laid_marginalia_token_signs) (fs := [Go.Proofs.YtejefchehdifhaaDoor.Ev.FV.str (ByteArray.mk #[35, 44, 64]), Go.Proofs.YtejefchehdifhaaDoor.Ev.FV.int .i64 6, Go.Proofs.YtejefchehdifhaaDoor.Ev.FV.str (ByteArray.mk #[117, 110, 115, 121, 110, 116, 97, 120, 45, 115, 112, 108, 105, 99, 105, 110, 103]), Go.Proofs.YtejefchehdifhaaDoor.Ev.FV.str (ByteArray.mk #[35, 40]), Go.Proofs.YtejefchehdifhaaDoor.Ev.FV.int .i64 3, Go.Proofs.YtejefchehdifhaaDoor.Ev.FV.str (ByteArray.mk #[]), Go.Proofs.YtejefchehdifhaaDoor.Ev.FV.str (ByteArray.mk #[35, 59]), Go.Proofs.YtejefchehdifhaaDoor.Ev.FV.int .i64 5, Go.Proofs.YtejefchehdifhaaDoor.Ev.FV.str (ByteArray.mk #[]), Go.Proofs.YtejefchehdifhaaDoor.Ev.FV.str (ByteArray.mk #[35, 39]), Go.Proofs.YtejefchehdifhaaDoor.Ev.FV.int .i64 6, Go.Proofs.YtejefchehdifhaaDoor.Ev.FV.str (ByteArray.mk #[115, 121, 110, 116, 97, 120]), Go.Proofs.YtejefchehdifhaaDoor.Ev.FV.str (ByteArray.mk #[35, 96]), Go.Proofs.YtejefchehdifhaaDoor.Ev.FV.int .i64 6, Go.Proofs.YtejefchehdifhaaDoor.Ev.FV.str (ByteArray.mk #[113, 117, 97, 115, 105, 115, 121, 110, 116, 97, 120]), Go.Proofs.YtejefchehdifhaaDoor.Ev.FV.str (ByteArray.mk #[35, 44]), Go.Proofs.YtejefchehdifhaaDoor.Ev.FV.int .i64 6, Go.Proofs.YtejefchehdifhaaDoor.Ev.FV.str (ByteArray.mk #[117, 110, 115, 121, 110, 116, 97, 120]), Go.Proofs.YtejefchehdifhaaDoor.Ev.FV.str (ByteArray.mk #[44, 64]), Go.Proofs.YtejefchehdifhaaDoor.Ev.FV.int .i64 6, Go.Proofs.YtejefchehdifhaaDoor.Ev.FV.str (ByteArray.mk #[117, 110, 113, 117, 111, 116, 101, 45, 115, 112, 108, 105, 99, 105, 110, 103]), Go.Proofs.YtejefchehdifhaaDoor.Ev.FV.str (ByteArray.mk #[40]), Go.Proofs.YtejefchehdifhaaDoor.Ev.FV.int .i64 1, Go.Proofs.YtejefchehdifhaaDoor.Ev.FV.str (ByteArray.mk #[]), Go.Proofs.YtejefchehdifhaaDoor.Ev.FV.str (ByteArray.mk #[41]), Go.Proofs.YtejefchehdifhaaDoor.Ev.FV.int .i64 2, Go.Proofs.YtejefchehdifhaaDoor.Ev.FV.str (ByteArray.mk #[]), Go.Proofs.YtejefchehdifhaaDoor.Ev.FV.str (ByteArray.mk #[39]), Go.Proofs.YtejefchehdifhaaDoor.Ev.FV.int .i64 6, Go.Proofs.YtejefchehdifhaaDoor.Ev.FV.str (ByteArray.mk #[113, 117, 111, 116, 101]), Go.Proofs.YtejefchehdifhaaDoor.Ev.FV.str (ByteArray.mk #[96]), Go.Proofs.YtejefchehdifhaaDoor.Ev.FV.int .i64 6, Go.Proofs.YtejefchehdifhaaDoor.Ev.FV.str (ByteArray.mk #[113, 117, 97, 115, 105, 113, 117, 111, 116, 101]), Go.Proofs.YtejefchehdifhaaDoor.Ev.FV.str (ByteArray.mk #[44]), Go.Proofs.YtejefchehdifhaaDoor.Ev.FV.int .i64 6, Go.Proofs.YtejefchehdifhaaDoor.Ev.FV.str (ByteArray.mk #[117, 110, 113, 117, 111, 116, 101])]) (m := 8) hM (by kernel_rfl) (List.mem_of_getElem? (i := 7) (by kernel_rfl)) (g := 0) (t := 75) (by kernel_rfl) (by kernel_rfl) (by kernel_rfl)
  · exact tabAt_flat_of (n := "unicode/utf8.first") (d := Rows.laid_unicode_utf8_first) (fs := (List.range 256).map fun c => Go.Proofs.YtejefchehdifhaaDoor.Ev.FV.int .u8 ((Go.Lib.firstT c : Nat) : Int)) (m := 8) hM (by kernel_rfl) (List.mem_of_getElem? (i := 8) (by kernel_rfl)) (g := 1) (t := 114) (by kernel_rfl) (by kernel_rfl) (by kernel_rfl)
  · exact tabAt_flat_of (n := "unicode/utf8.acceptRanges") (d := Rows.laid_unicode_utf8_acceptRanges) (fs := ((List.range 16).map fun i => [Go.Proofs.YtejefchehdifhaaDoor.Ev.FV.int .u8 ((Go.Lib.accLo i : Nat) : Int), Go.Proofs.YtejefchehdifhaaDoor.Ev.FV.int .u8 ((Go.Lib.accHi i : Nat) : Int)]).flatten) (m := 8) hM (by kernel_rfl) (List.mem_of_getElem? (i := 3) (by kernel_rfl)) (g := 2) (t := 118) (by kernel_rfl) (by kernel_rfl) (by kernel_rfl)
  · exact tabAt_flat_of (n := "marginalia/utf.names") (d := Rows.laid_marginalia_utf_names) (fs := [Go.Proofs.YtejefchehdifhaaDoor.Ev.FV.int .i64 32, Go.Proofs.YtejefchehdifhaaDoor.Ev.FV.str (ByteArray.mk #[115, 112, 97, 99, 101]), Go.Proofs.YtejefchehdifhaaDoor.Ev.FV.int .i64 10, Go.Proofs.YtejefchehdifhaaDoor.Ev.FV.str (ByteArray.mk #[110, 101, 119, 108, 105, 110, 101]), Go.Proofs.YtejefchehdifhaaDoor.Ev.FV.int .i64 9, Go.Proofs.YtejefchehdifhaaDoor.Ev.FV.str (ByteArray.mk #[116, 97, 98]), Go.Proofs.YtejefchehdifhaaDoor.Ev.FV.int .i64 13, Go.Proofs.YtejefchehdifhaaDoor.Ev.FV.str (ByteArray.mk #[114, 101, 116, 117, 114, 110]), Go.Proofs.YtejefchehdifhaaDoor.Ev.FV.int .i64 0, Go.Proofs.YtejefchehdifhaaDoor.Ev.FV.str (ByteArray.mk #[110, 117, 108, 108]), Go.Proofs.YtejefchehdifhaaDoor.Ev.FV.int .i64 127, Go.Proofs.YtejefchehdifhaaDoor.Ev.FV.str (ByteArray.mk #[100, 101, 108, 101, 116, 101])]) (m := 8) hM (by kernel_rfl) (List.mem_of_getElem? (i := 6) (by kernel_rfl)) (g := 3) (t := 122) (by kernel_rfl) (by kernel_rfl) (by kernel_rfl)
  · exact tabAt_ifc_of (n := "strconv.ErrSyntax") (d := Rows.laid_strconv_ErrSyntax) hM (by kernel_rfl) (List.mem_of_getElem? (i := 5) (by kernel_rfl)) (g := 4) (t := 81) (by kernel_rfl) (by kernel_rfl) Tryd.underlying81
  · exact tabAt_ifc_of (n := "strconv.ErrRange") (d := Rows.laid_strconv_ErrRange) hM (by kernel_rfl) (List.mem_of_getElem? (i := 4) (by kernel_rfl)) (g := 5) (t := 81) (by kernel_rfl) (by kernel_rfl) Tryd.underlying81
  · exact tabAt_flat_of (n := "internal/strconv.uint64pow10") (d := Rows.laid_internal_strconv_uint64pow10) (fs := (List.range 20).map fun i => Go.Proofs.YtejefchehdifhaaDoor.Ev.FV.int .u64 ((10 ^ i : Nat) : Int)) (m := 8) hM (by kernel_rfl) (List.mem_of_getElem? (i := 2) (by kernel_rfl)) (g := 7) (t := 144) (by kernel_rfl) (by kernel_rfl) (by kernel_rfl)
set_option maxRecDepth 100000 in
theorem lifted (os : Os) (started : os.Started) (H : Type) (enc : TypeId × Value → H) :
    ReturnsInHanded {} Tryd.checked os 6 .any (fun w args => (Rows.tokenWordsSpec.pre enc Tryd.prog Tryd.f6 Rows.tokenWordsRow.domain false w args ∧ laidMetH Tryd.prog Rows.tokenWordsRow.laid w) ∧ sizedMet enc Tryd.prog Tryd.f6 (OpenSpec.ofChange Rows.tokenWordsSpec) false w args)
      (Rows.tokenWordsSpec.post enc Tryd.prog Tryd.f6 false true false false) := by
  refine returnsInHanded_of_change_and (C := Tryd.checked) (X := fun w _ => laidMetH Tryd.prog Rows.tokenWordsRow.laid w) (fun _ _ _ hh h => h.of_heap hh) own started (by kernel_rfl) Tryd.func6
    (ChangeSpec.witness_shaped (enc := enc) (C := Tryd.checked) (os := os) (X := fun w _ => laidMetH Tryd.prog Rows.tokenWordsRow.laid w) false (World.laidAll Tryd.prog os Rows.tokenWordsRow.laid) #[.slice none 0 0] 8 (World.laidAll_os _ _ _) (World.shaped_of_ZipB (by kernel_rfl) (by kernel_rfl)) (by kernel_rfl) (by kernel_rfl) (by kernel_rfl) (door_met os _)) ?_
  intro W base args ds gs before hval0 hW hcnd hsz0 hL _
  have hsz : (DataW.weightsEach Tryd.prog (Tryd.f6.params.toList ++ Rows.tokenWordsSpec.plain.varTypes Tryd.prog) (ds ++ gs)).all (· ≤ reachBytes) = true := hsz0
  have hval : ∀ (j : Nat) t v, Tryd.f6.params[j]? = some t → args[j]? = some v → Value.okWide Tryd.prog W .any base t v := hval0
  have hW' := hW
  obtain ⟨p, q, hA0, hV, rfl, hfz, hnd⟩ := hW
  have hA : DataW.TrodAll enc Tryd.prog W 0 (fun _ => true) true Tryd.f6.params.toList args.toList ds p := hA0
  rw [Tryd.params6] at hA hval hsz
  obtain ⟨rfl, rfl⟩ := trodVars_none hV
  have hA2 := hA
  obtain ⟨v0, vs0, d0, ds0, p0, q0, hargs, rfl, rfl, h0_, r0⟩ := trodAll_cons hA2
  obtain ⟨rfl, rfl, rfl⟩ := trodAll_nil r0
  obtain ⟨xs, h1, h2, h3, hb⟩ := openedAll (S := [41, 5]) (ts := [41]) (by kernel_rfl) (by decide) (fun j t v ht hv => hval j t v (by simpa using ht) (by simpa using hv)) hA (fun m hm => by simpa using List.all_eq_true.1 hsz m hm)
  refine ((law_TokenWords xs h1).door (glob hL) (by simpa using h2) (fun i x hx => by obtain ⟨v, hv, hr⟩ := h3 i x hx; exact ⟨v, by simpa using hv, hr⟩)).mono fun e W' ⟨he, bel⟩ => ?_
  subst he
  exact ⟨_, rfl, _, _, _, [], _, [], hW', trodAll_mk1 (shut_bool Tryd.underlying4 _), trodAll_below laidOut bel (ts := [41]) (by decide +kernel) hA, rfl, bel.frame _, fun h => by cases h⟩
theorem over : Rows.tokenWordsRow.holds Tryd.pinned (OpenSpec.ofChange Rows.tokenWordsSpec) :=
  OpenClaim.holds_of_wide 6 Tryd.f6 rfl rfl rfl rfl rfl rfl rfl ⟨rfl, rfl, rfl, rfl, rfl⟩ rfl rfl rfl rfl rfl (by kernel_rfl) Tryd.func6 (by kernel_rfl)
    (of_decide_eq_true (by kernel_rfl)) (by unfold Func.isWrapper; first | (rw [if_pos (by decide +kernel)]; kernel_rfl) | (rw [if_neg (by decide +kernel)]; exact ⟨rfl, rfl⟩))
    (fun os started H enc _ => lifted os started H enc)
theorem proved : Rows.TokenWordsCardSaid :=
  Claim7.holds_tied_plain_at .later [] [.data, .data, .data, .data, .sentinel, .sentinel, .data, .data, .pinned] true (true, "1082c8195d53d4c379180013bf5bbf77daab47af34830393639ba355cb98f386") true
    over (fun _ h => by cases h) (by kernel_rfl) (fun _ h => by cases h) tokenWords_row_tie rfl ⟨rfl, rfl⟩ (by kernel_rfl) rfl
    (fun f fn hf hfn => by
      obtain rfl : f = 6 := Option.some.inj ((show Tryd.prog.funcNamed "marginalia/marginalialaw03.TokenWords" = some 6 by kernel_rfl).symm.trans hf) |>.symm
      obtain rfl : fn = Tryd.f6 := (Option.some.inj (Tryd.func6.symm.trans hfn)).symm
      exact ⟨by kernel_rfl, fun j t ht => by
        rw [Tryd.params6] at ht
        have hm : t ∈ [41] := by simpa using Array.mem_of_getElem? ht
        have hall : ([41].all fun u => !Tryd.prog.wantsStandIn u) = true := by kernel_rfl
        exact (show Tryd.prog.wantsStandIn t = false by simpa using List.all_eq_true.1 hall t hm)⟩)
    (by kernel_rfl)
end Go.Proofs.YtejefchehdifhaaDoor.tokenWords
namespace Go.Proofs.YtejefchehdifhaaDoor
theorem tokenWords_holds : Rows.TokenWordsCardSaid := tokenWords.proved
end Go.Proofs.YtejefchehdifhaaDoor
end
