/-
  Part of a claim: definitions and lemmas that its theorem leans on, packed by wip/tools/pack.py.
-/
import Derived.Test.YtejefchehdifhaaGreatDoorZB3
set_option linter.unusedVariables false
set_option linter.unusedSimpArgs false
section
set_option linter.unusedVariables false
set_option linter.unusedSimpArgs false
namespace Go.Proofs.YtejefchehdifhaaGreatDoor.Ev
open Go Go.RowKit
theorem atom_eqs {T : List Int} (hT : Bytes T) :
    ((ByteArray.toList (bytesOf T)) == (ByteArray.toList (ByteArray.mk #[35, 116]))) = decide (T = [35, 116]) ∧ ((ByteArray.toList (bytesOf T)) == (ByteArray.toList (ByteArray.mk #[35, 116, 114, 117, 101]))) = decide (T = [35, 116, 114, 117, 101]) ∧
    ((ByteArray.toList (bytesOf T)) == (ByteArray.toList (ByteArray.mk #[35, 102]))) = decide (T = [35, 102]) ∧ ((ByteArray.toList (bytesOf T)) == (ByteArray.toList (ByteArray.mk #[35, 102, 97, 108, 115, 101]))) = decide (T = [35, 102, 97, 108, 115, 101]) ∧
    ((ByteArray.toList (bytesOf T)) == (ByteArray.toList (ByteArray.mk #[]))) = decide (T = []) ∧ ((ByteArray.toList (bytesOf T)) == (ByteArray.toList (ByteArray.mk #[46]))) = decide (T = [46]) := by
  have b : ∀ l : List Int, (∀ x ∈ l, 0 ≤ x ∧ x < 256) → Bytes l := fun l h => h
  refine ⟨eq_bytes (m := [35, 116]) hT (b _ (by decide)), eq_bytes (m := [35, 116, 114, 117, 101]) hT (b _ (by decide)), eq_bytes (m := [35, 102]) hT (b _ (by decide)), eq_bytes (m := [35, 102, 97, 108, 115, 101]) hT (b _ (by decide)), eq_bytes (m := []) hT (b _ (by decide)), eq_bytes (m := [46]) hT (b _ (by decide))⟩
theorem byte0 {T : List Int} (hT : Bytes T) (hne : T ≠ []) : ∃ c : UInt8, (ByteArray.data (bytesOf T))[Int.toNat 0]? = some c ∧ ((c.toNat : Nat) : Int) = rd T 0 :=
  byte_at hT (List.length_pos_iff.2 hne)
theorem head_rd {T : List Int} (hne : T ≠ []) (c : Int) : (T.head? = some c) ↔ rd T 0 = c := by
  cases T with
  | nil => exact absurd rfl hne
  | cons x T => simp [rd]
set_option maxHeartbeats 1000000 in
theorem tAtom_ok (T : List Int) (hT : Bytes T) (hlen : T.length ≤ 16777216) : Fn Tryz.prog 15 [.one (.fz (.str (bytesOf T)))] [] (atomT T) [] := by
  refine token_Atom_fn _ ?_
  obtain ⟨R, hR, hRe⟩ : ∃ R : TV → List Ob → Prop, R (atomT T) [] ∧ (fun r' h' => r' = atomT T ∧ h' = []) = R := ⟨_, ⟨rfl, rfl⟩, rfl⟩
  rw [hRe]
  clear hRe
  unfold token_Atom_H
  obtain ⟨e1, e2, e3, e4, e5, e6⟩ := atom_eqs hT
  rw [map_bs, bs_of hT, e1, e2, e3, e4, e5, e6, size_of]
  clear e1 e2 e3 e4 e5 e6
  refine ⟨fun h => ?_, fun h1 => ⟨fun h => ?_, fun h2 => ⟨fun h => ?_, fun h3 => ⟨fun h => ?_, fun h4 => ?_⟩⟩⟩⟩
  · rw [atomT_8 (.inl (of_decide_eq_true h))] at hR; exact hR
  · rw [atomT_8 (.inr (of_decide_eq_true h))] at hR; exact hR
  · rw [atomT_9 (.inl (of_decide_eq_true h))] at hR; exact hR
  · rw [atomT_9 (.inr (of_decide_eq_true h))] at hR; exact hR
  have g1 : ¬ trueP T := fun h => h.elim (of_decide_eq_false h1) (of_decide_eq_false h2)
  have g2 : ¬ falseP T := fun h => h.elim (of_decide_eq_false h3) (of_decide_eq_false h4)
  refine ⟨_, _, _, parse_ok T hT (by omega), fun h => ?_, fun h5 => ?_⟩
  · rw [atomT_7 g1 g2 h] at hR; exact hR
  have hS : symP T → R (atT 4 (bytesOf T) false [] true) [] := fun h => by rw [atomT_4 g1 g2 h5 h] at hR; exact hR
  have hN : ¬ symP T → R (atT 0 (ByteArray.mk #[]) false [] false) [] := fun h => by rw [atomT_0 g1 g2 h5 h] at hR; exact hR
  clear hR
  refine ⟨_, _, _, utfDecode_ok T hT, ?_⟩
  have p1 := HasPrefix_fn (bytesOf T) (ByteArray.mk #[43])
  have p2 := HasPrefix_fn (bytesOf T) (ByteArray.mk #[45])
  rw [show (ByteArray.mk #[43]).data.toList = [UInt8.ofNat 43] from rfl, hasPref T hT 43 (by omega)] at p1
  rw [show (ByteArray.mk #[45]).data.toList = [UInt8.ofNat 45] from rfl, hasPref T hT 45 (by omega)] at p2
  have rest : ∀ (sg : Bool), (T ≠ [] → (sg = true ↔ (rd T 0 = 43 ∨ rd T 0 = 45))) →
      (decide (T = []) = true → R (atT 0 (ByteArray.mk #[]) false [] false) []) ∧ (decide (T = []) = false →
      (decide (T = [46]) = true → R (atT 0 (ByteArray.mk #[]) false [] false) []) ∧ (decide (T = [46]) = false →
      (decide ((64 : Int) < ((T.length : Nat) : Int)) = true → R (atT 0 (ByteArray.mk #[]) false [] false) []) ∧ (decide ((64 : Int) < ((T.length : Nat) : Int)) = false →
      ((decE T != 0) = true → R (atT 0 (ByteArray.mk #[]) false [] false) []) ∧ ((decE T != 0) = false →
      ∃ b17 : Bool, Fn Tryz.prog 50 [fzS .i64 (decL T), .one (.fz (.fn 51 []))] [] (fzB b17) [] ∧
      (b17 = true → R (atT 0 (ByteArray.mk #[]) false [] false) []) ∧ (b17 = false → (0 : Int) ≤ 0 ∧ ∃ c2 : UInt8, (ByteArray.data (bytesOf T))[Int.toNat 0]? = some c2 ∧
      (((((UInt8.toNat c2) : Nat) : Int) == 35) = true → R (atT 0 (ByteArray.mk #[]) false [] false) []) ∧ (((((UInt8.toNat c2) : Nat) : Int) == 35) = false →
      ∃ b18 : Bool, Fn Tryz.prog 52 [.one (.fz (.str (bytesOf T))), fzI .i64 0] [] (fzB b18) [] ∧
      (b18 = true → R (atT 0 (ByteArray.mk #[]) false [] false) []) ∧ (b18 = false →
      (sg = true → ∃ b19 : Bool, Fn Tryz.prog 52 [.one (.fz (.str (bytesOf T))), fzI .i64 1] [] (fzB b19) [] ∧ (b19 = true → R (atT 0 (ByteArray.mk #[]) false [] false) []) ∧ (b19 = false → R (atT 4 (bytesOf T) false [] true) [])) ∧
      (sg = false → R (atT 4 (bytesOf T) false [] true) [])))))))) := by
    intro sg hsg
    refine ⟨fun h => hN fun hs => hs.1 (of_decide_eq_true h), fun h => ?_⟩
    have hne : T ≠ [] := of_decide_eq_false h
    refine ⟨fun h => hN fun hs => hs.2.1 (of_decide_eq_true h), fun h6 => ⟨fun h => hN fun hs => ?_, fun h => ?_⟩⟩
    · have := of_decide_eq_true h
      have := hs.2.2.1
      omega
    have hl : ¬ 64 < T.length := by have := of_decide_eq_false h; omega
    obtain ⟨d1, d2⟩ := decE_small hl
    rw [bne_t, bne_f]
    refine ⟨fun h => hN fun hs => (d1.1 h) hs.2.2.2.1, fun h => ?_⟩
    have hc : (chars T).2 = -1 := by
      by_cases hc : (chars T).2 = -1
      · exact hc
      · exact absurd h (d1.2 hc)
    have hcl := chars_len T
    rw [d2 hc]
    refine ⟨_, anyEnds_ok _ (by omega), fun h => hN fun hs => ?_, fun h7 => ⟨by omega, ?_⟩⟩
    · have := hs.2.2.2.2.1
      rw [h] at this; cases this
    obtain ⟨c, hcc, hcn⟩ := byte0 hT hne
    refine ⟨c, hcc, ?_⟩
    rw [hcn, beq_t, beq_f]
    refine ⟨fun h => hN fun hs => hs.2.2.2.2.2.1 h, fun h8 => ⟨_, tdigit_ok T hT 0, fun h => hN fun hs => ?_, fun h9 => ⟨fun h => ⟨_, tdigit_ok T hT 1, fun h2 => hN fun hs => ?_, fun h2 => hS ?_⟩, fun h => hS ?_⟩⟩⟩
    · have := hs.2.2.2.2.2.2.1
      rw [h] at this; cases this
    · exact hs.2.2.2.2.2.2.2 ⟨(hsg hne).1 h, h2⟩
    · exact ⟨hne, of_decide_eq_false h6, by omega, hc, h7, h8, h9, fun hx => by rw [hx.2] at h2; cases h2⟩
    · exact ⟨hne, of_decide_eq_false h6, by omega, hc, h7, h8, h9, fun hx => by rw [(hsg hne).2 hx.1] at h; cases h⟩
  refine ⟨_, p1, fun h => ?_, fun h => ⟨_, p2, ?_⟩⟩
  · obtain ⟨r1, r2⟩ := rest true (fun hne => ⟨fun _ => .inl ((head_rd hne _).1 (of_decide_eq_true h)), fun _ => rfl⟩)
    refine ⟨r1, fun k1 => ⟨(r2 k1).1, fun k2 => ⟨((r2 k1).2 k2).1, fun k3 => ⟨(((r2 k1).2 k2).2 k3).1, fun k4 => ?_⟩⟩⟩⟩
    obtain ⟨b, q1, q2, q3⟩ := (((r2 k1).2 k2).2 k3).2 k4
    refine ⟨b, q1, q2, fun k5 => ?_⟩
    obtain ⟨q4, c, q5, q6, q7⟩ := q3 k5
    refine ⟨q4, c, q5, q6, fun k6 => ?_⟩
    obtain ⟨b, q8, q9, q10⟩ := q7 k6
    exact ⟨b, q8, q9, fun k7 => (q10 k7).1 rfl⟩
  · have hs : ∀ hne : T ≠ [], (decide (T.head? = some ((45 : Nat) : Int)) = true ↔ (rd T 0 = 43 ∨ rd T 0 = 45)) := fun hne => by
      rw [decide_eq_true_eq, head_rd hne]
      have := of_decide_eq_false h
      rw [head_rd hne] at this
      omega
    exact rest _ hs
theorem drop_rd' (l : List Int) (j : Nat) (h : j < l.length) : l.drop j = rd l j :: l.drop (j + 1) := by
  rw [rd_at l j h]; exact List.drop_eq_getElem_cons h
theorem chL_eq (T : List Int) (h : (chars T).2 = -1) : chL T = (chars T).1 := if_pos h
theorem chs_bad : ∀ (f at_ : Nat) (l acc : List Int), (chs f l at_ acc).2 = -1 ∨ 0 ≤ (chs f l at_ acc).2
  | 0, at_, l, acc => by simp [chs]
  | f + 1, at_, l, acc => by
    unfold chs
    split
    · simp
    · split
      · right; simp only; omega
      · exact chs_bad f _ l _
theorem rAtom_loop (T : List Int) (xs : List Int) (hl : xs.length ≤ 1000000000) (R : TV → List Ob → Prop) (hS : xs.any endsB = false → R (atT 4 (bytesOf T) false [] true) []) (hN : xs.any endsB = true → R (atT 0 (ByteArray.mk #[]) false [] false) []) :
    ∀ (d j : Nat), j + d = xs.length → xs.any endsB = (xs.drop j).any endsB → ref02_Atom_L0 R (bytesOf T) (ints .i64 xs) j
  | 0, j, hj, h => by
    refine ref02_Atom_l0 ?_
    unfold ref02_Atom_R0
    rw [ints_len, dec_t, dec_f]
    refine ⟨fun h => by omega, fun _ => hS ?_⟩
    rw [h, List.drop_of_length_le (by omega)]; rfl
  | d + 1, j, hj, h => by
    have hF := rEnds_ok (rd xs j)
    have hg : (ints .i64 xs)[j]? = some [.int .i64 (rd xs j)] := by simp [ints, rd_at xs j (by omega), show j < xs.length by omega]
    refine ref02_Atom_l0 ?_
    unfold ref02_Atom_R0
    have e : IntKind.wrap .i64 ((j : Int) + 1) = ((j + 1 : Nat) : Int) := w64 (by omega) (by omega)
    rw [ints_len, dec_t, dec_f, e]
    rw [drop_rd' xs j (by omega), List.any_cons] at h
    refine ⟨fun _ => ⟨by omega, _, hg, _, hF, fun h1 => hN (by rw [h, h1, Bool.true_or]), fun h1 => ?_⟩, fun h => by omega⟩
    exact rAtom_loop T xs hl R hS hN d (j + 1) (by omega) (by rw [h, h1, Bool.false_or])
set_option maxHeartbeats 1000000 in
theorem rAtom_ok (T : List Int) (hT : Bytes T) (hlen : T.length ≤ 16777216) : Fn Tryz.prog 16 [.one (.fz (.str (bytesOf T)))] [] (atomT T) [] := by
  refine ref02_Atom_fn _ ?_
  obtain ⟨R, hR, hRe⟩ : ∃ R : TV → List Ob → Prop, R (atomT T) [] ∧ (fun r' h' => r' = atomT T ∧ h' = []) = R := ⟨_, ⟨rfl, rfl⟩, rfl⟩
  rw [hRe]
  clear hRe
  unfold ref02_Atom_H
  obtain ⟨e1, e2, e3, e4, e5, e6⟩ := atom_eqs hT
  rw [map_bs, bs_of hT, e1, e2, e3, e4, e6, size_of]
  clear e1 e2 e3 e4 e5 e6
  refine ⟨fun h => ?_, fun h1 => ⟨fun h => ?_, fun h2 => ⟨fun h => ?_, fun h3 => ⟨fun h => ?_, fun h4 => ?_⟩⟩⟩⟩
  · rw [atomT_8 (.inl (of_decide_eq_true h))] at hR; exact hR
  · rw [atomT_8 (.inr (of_decide_eq_true h))] at hR; exact hR
  · rw [atomT_9 (.inl (of_decide_eq_true h))] at hR; exact hR
  · rw [atomT_9 (.inr (of_decide_eq_true h))] at hR; exact hR
  have g1 : ¬ trueP T := fun h => h.elim (of_decide_eq_false h1) (of_decide_eq_false h2)
  have g2 : ¬ falseP T := fun h => h.elim (of_decide_eq_false h3) (of_decide_eq_false h4)
  refine ⟨_, _, _, rparse_ok T hT (by omega), fun h => ?_, fun h5 => ?_⟩
  · rw [atomT_7 g1 g2 h] at hR; exact hR
  have hS : symP T → R (atT 4 (bytesOf T) false [] true) [] := fun h => by rw [atomT_4 g1 g2 h5 h] at hR; exact hR
  have hN : ¬ symP T → R (atT 0 (ByteArray.mk #[]) false [] false) [] := fun h => by rw [atomT_0 g1 g2 h5 h] at hR; exact hR
  clear hR
  refine ⟨fun h => hN fun hs => ?_, fun h => ?_⟩
  · have h1 := of_decide_eq_true h
    have := List.length_pos_iff.2 hs.1
    omega
  have hne : T ≠ [] := by
    have h1 := of_decide_eq_false h
    exact List.length_pos_iff.1 (by omega)
  refine ⟨fun h => hN fun hs => ?_, fun h => ?_⟩
  · have := of_decide_eq_true h
    have := hs.2.2.1
    omega
  have hl : ¬ 64 < T.length := by have := of_decide_eq_false h; omega
  refine ⟨fun h => hN fun hs => hs.2.1 (of_decide_eq_true h), fun h6 => ⟨by omega, ?_⟩⟩
  obtain ⟨c, hcc, hcn⟩ := byte0 hT hne
  refine ⟨c, hcc, ?_⟩
  rw [hcn, beq_t, beq_f]
  refine ⟨fun h => hN fun hs => hs.2.2.2.2.2.1 h, fun h8 => ⟨_, rdigit_ok T hT 0, fun h => hN fun hs => ?_, fun h9 => ⟨by omega, c, hcc, ?_⟩⟩⟩
  · have := hs.2.2.2.2.2.2.1
    rw [h] at this; cases this
  rw [hcn, beq_t, beq_f]
  have last : ¬ ((rd T 0 = 43 ∨ rd T 0 = 45) ∧ digB T 1 = true) → (decide ((0 : Int) ≤ (chars T).2) = true → R (atT 0 (ByteArray.mk #[]) false [] false) []) ∧ (decide ((0 : Int) ≤ (chars T).2) = false → ref02_Atom_L0 R (bytesOf T) (ints .i64 (chL T)) 0) := by
    intro hsg
    refine ⟨fun h => hN fun hs => ?_, fun h => ?_⟩
    · have h1 := of_decide_eq_true h
      have := hs.2.2.2.1
      omega
    · have h1 := of_decide_eq_false h
      have hc : (chars T).2 = -1 := by
        rcases chs_bad (T.length + 1) 0 T [] with h2 | h2
        · exact h2
        · exact absurd h2 h1
      rw [chL_eq T hc]
      have hcl := chars_len T
      refine rAtom_loop T _ (by omega) R (fun h7 => hS ⟨hne, of_decide_eq_false h6, by omega, hc, h7, h8, h9, hsg⟩) (fun h7 => hN fun hs => ?_) (chars T).1.length 0 (by omega) rfl
      have := hs.2.2.2.2.1
      rw [h7] at this; cases this
  refine ⟨fun h => ⟨_, rdigit_ok T hT 1, fun h2 => hN fun hs => hs.2.2.2.2.2.2.2 ⟨.inl h, h2⟩, fun h2 => ⟨_, _, rChars_ok T hT (by omega), last fun hx => by rw [hx.2] at h2; cases h2⟩⟩, fun h43 => ⟨by omega, c, hcc, ?_⟩⟩
  rw [hcn, beq_t, beq_f]
  refine ⟨fun h => ⟨_, rdigit_ok T hT 1, fun h2 => hN fun hs => hs.2.2.2.2.2.2.2 ⟨.inr h, h2⟩, fun h2 => ⟨_, _, rChars_ok T hT (by omega), last fun hx => by rw [hx.2] at h2; cases h2⟩⟩, fun h45 => ⟨_, _, rChars_ok T hT (by omega), last fun hx => hx.1.elim h43 h45⟩⟩
end Go.Proofs.YtejefchehdifhaaGreatDoor.Ev
end
section
set_option linter.unusedVariables false
set_option maxRecDepth 100000
namespace Go.Proofs.YtejefchehdifhaaGreatDoor.Ev
open Go
def unicode_utf8_AppendRune1_lv : List Nat → Keep := lvOf []
def unicode_utf8_AppendRune1_H (R : TV → List Ob → Prop) (rn : Int) (o : List (List FV)) : Prop :=
  ((((decide ((IntKind.wrap .u32 rn) ≤ 127)) = true) → (((((List.length o) + (List.length [[(FV.int .u8 (IntKind.wrap .u8 rn))]])) * 1) ≤ 220000000000000) ∧ (R (TV.one (AV.ofl 1 1)) [Ob.no, (Ob.f 0 1 (o ++ [[(FV.int .u8 (IntKind.wrap .u8 rn))]]))]))) ∧ (((decide ((IntKind.wrap .u32 rn) ≤ 127)) = false) → (∃ es1 : List (List FV), ((Fn Tryz.prog 170 [(TV.one (AV.ofl 1 0)), (TV.one (AV.fz (FV.int .i32 rn)))] [(Ob.f 0 1 o)] (TV.one (AV.ofl 1 1)) [Ob.no, (Ob.f 0 1 es1)]) ∧ (R (TV.one (AV.ofl 1 1)) [Ob.no, (Ob.f 0 1 es1)])))))
theorem unicode_utf8_AppendRune1_fn (rn : Int) (o : List (List FV)) {r : TV} {h : List Ob} (H : unicode_utf8_AppendRune1_H (fun r' h' => r' = r ∧ Wk h' h) rn o) : Fn Tryz.prog 152 [(TV.one (AV.ofl 1 0)), (TV.one (AV.fz (FV.int .i32 rn)))] [(Ob.f 0 1 o)] r h :=
  Fn.by_trW (M := (modeOf [] [(170, [(Sig.mk 1 [(false, [(AT.a (AV.ofl 1 1))])] [OT.no, (OT.f 0 1)] 1)])])) (lv := unicode_utf8_AppendRune1_lv) (own := (some 1)) (F := Tryz.f152) (by kernel_rfl) (by kernel_rfl) (by first | decide | simp) (fun _ _ h => h) (by kernel_rfl) H
def unicode_utf8_appendRuneNonASCII1_lv : List Nat → Keep := lvOf []
def unicode_utf8_appendRuneNonASCII1_H (R : TV → List Ob → Prop) (rn : Int) (o : List (List FV)) : Prop :=
  ((((decide ((IntKind.wrap .u32 rn) ≤ 2047)) = true) → (((0 : Int) ≤ 6) ∧ (((((List.length o) + (List.length [[(FV.int .u8 (IntKind.wrap .u8 (((BitVec.toNat ((BitVec.ofInt 8 192) ||| (BitVec.ofInt 8 (IntKind.wrap .u8 (Int.fdiv rn (2 ^ (min (Int.toNat 6) 32))))))) : Nat) : Int)))], [(FV.int .u8 (IntKind.wrap .u8 (((BitVec.toNat ((BitVec.ofInt 8 128) ||| (BitVec.ofInt 8 (IntKind.wrap .u8 (((BitVec.toNat ((BitVec.ofInt 8 (IntKind.wrap .u8 rn)) &&& (BitVec.ofInt 8 63))) : Nat) : Int))))) : Nat) : Int)))]])) * 1) ≤ 220000000000000) ∧ (R (TV.one (AV.ofl 1 1)) [Ob.no, (Ob.f 0 1 (o ++ [[(FV.int .u8 (IntKind.wrap .u8 (((BitVec.toNat ((BitVec.ofInt 8 192) ||| (BitVec.ofInt 8 (IntKind.wrap .u8 (Int.fdiv rn (2 ^ (min (Int.toNat 6) 32))))))) : Nat) : Int)))], [(FV.int .u8 (IntKind.wrap .u8 (((BitVec.toNat ((BitVec.ofInt 8 128) ||| (BitVec.ofInt 8 (IntKind.wrap .u8 (((BitVec.toNat ((BitVec.ofInt 8 (IntKind.wrap .u8 rn)) &&& (BitVec.ofInt 8 63))) : Nat) : Int))))) : Nat) : Int)))]]))])))) ∧ (((decide ((IntKind.wrap .u32 rn) ≤ 2047)) = false) → ((((decide ((IntKind.wrap .u32 rn) < 55296)) = true) → (((0 : Int) ≤ 12) ∧ (((0 : Int) ≤ 6) ∧ (((((List.length o) + (List.length [[(FV.int .u8 (IntKind.wrap .u8 (((BitVec.toNat ((BitVec.ofInt 8 224) ||| (BitVec.ofInt 8 (IntKind.wrap .u8 (Int.fdiv rn (2 ^ (min (Int.toNat 12) 32))))))) : Nat) : Int)))], [(FV.int .u8 (IntKind.wrap .u8 (((BitVec.toNat ((BitVec.ofInt 8 128) ||| (BitVec.ofInt 8 (IntKind.wrap .u8 (((BitVec.toNat ((BitVec.ofInt 8 (IntKind.wrap .u8 (Int.fdiv rn (2 ^ (min (Int.toNat 6) 32))))) &&& (BitVec.ofInt 8 63))) : Nat) : Int))))) : Nat) : Int)))], [(FV.int .u8 (IntKind.wrap .u8 (((BitVec.toNat ((BitVec.ofInt 8 128) ||| (BitVec.ofInt 8 (IntKind.wrap .u8 (((BitVec.toNat ((BitVec.ofInt 8 (IntKind.wrap .u8 rn)) &&& (BitVec.ofInt 8 63))) : Nat) : Int))))) : Nat) : Int)))]])) * 1) ≤ 220000000000000) ∧ (R (TV.one (AV.ofl 1 1)) [Ob.no, (Ob.f 0 1 (o ++ [[(FV.int .u8 (IntKind.wrap .u8 (((BitVec.toNat ((BitVec.ofInt 8 224) ||| (BitVec.ofInt 8 (IntKind.wrap .u8 (Int.fdiv rn (2 ^ (min (Int.toNat 12) 32))))))) : Nat) : Int)))], [(FV.int .u8 (IntKind.wrap .u8 (((BitVec.toNat ((BitVec.ofInt 8 128) ||| (BitVec.ofInt 8 (IntKind.wrap .u8 (((BitVec.toNat ((BitVec.ofInt 8 (IntKind.wrap .u8 (Int.fdiv rn (2 ^ (min (Int.toNat 6) 32))))) &&& (BitVec.ofInt 8 63))) : Nat) : Int))))) : Nat) : Int)))], [(FV.int .u8 (IntKind.wrap .u8 (((BitVec.toNat ((BitVec.ofInt 8 128) ||| (BitVec.ofInt 8 (IntKind.wrap .u8 (((BitVec.toNat ((BitVec.ofInt 8 (IntKind.wrap .u8 rn)) &&& (BitVec.ofInt 8 63))) : Nat) : Int))))) : Nat) : Int)))]]))]))))) ∧ (((decide ((IntKind.wrap .u32 rn) < 55296)) = false) → ((((decide ((57343 : Int) < (IntKind.wrap .u32 rn))) = true) → ((((decide ((IntKind.wrap .u32 rn) ≤ 65535)) = true) → (((0 : Int) ≤ 12) ∧ (((0 : Int) ≤ 6) ∧ (((((List.length o) + (List.length [[(FV.int .u8 (IntKind.wrap .u8 (((BitVec.toNat ((BitVec.ofInt 8 224) ||| (BitVec.ofInt 8 (IntKind.wrap .u8 (Int.fdiv rn (2 ^ (min (Int.toNat 12) 32))))))) : Nat) : Int)))], [(FV.int .u8 (IntKind.wrap .u8 (((BitVec.toNat ((BitVec.ofInt 8 128) ||| (BitVec.ofInt 8 (IntKind.wrap .u8 (((BitVec.toNat ((BitVec.ofInt 8 (IntKind.wrap .u8 (Int.fdiv rn (2 ^ (min (Int.toNat 6) 32))))) &&& (BitVec.ofInt 8 63))) : Nat) : Int))))) : Nat) : Int)))], [(FV.int .u8 (IntKind.wrap .u8 (((BitVec.toNat ((BitVec.ofInt 8 128) ||| (BitVec.ofInt 8 (IntKind.wrap .u8 (((BitVec.toNat ((BitVec.ofInt 8 (IntKind.wrap .u8 rn)) &&& (BitVec.ofInt 8 63))) : Nat) : Int))))) : Nat) : Int)))]])) * 1) ≤ 220000000000000) ∧ (R (TV.one (AV.ofl 1 1)) [Ob.no, (Ob.f 0 1 (o ++ [[(FV.int .u8 (IntKind.wrap .u8 (((BitVec.toNat ((BitVec.ofInt 8 224) ||| (BitVec.ofInt 8 (IntKind.wrap .u8 (Int.fdiv rn (2 ^ (min (Int.toNat 12) 32))))))) : Nat) : Int)))], [(FV.int .u8 (IntKind.wrap .u8 (((BitVec.toNat ((BitVec.ofInt 8 128) ||| (BitVec.ofInt 8 (IntKind.wrap .u8 (((BitVec.toNat ((BitVec.ofInt 8 (IntKind.wrap .u8 (Int.fdiv rn (2 ^ (min (Int.toNat 6) 32))))) &&& (BitVec.ofInt 8 63))) : Nat) : Int))))) : Nat) : Int)))], [(FV.int .u8 (IntKind.wrap .u8 (((BitVec.toNat ((BitVec.ofInt 8 128) ||| (BitVec.ofInt 8 (IntKind.wrap .u8 (((BitVec.toNat ((BitVec.ofInt 8 (IntKind.wrap .u8 rn)) &&& (BitVec.ofInt 8 63))) : Nat) : Int))))) : Nat) : Int)))]]))]))))) ∧ (((decide ((IntKind.wrap .u32 rn) ≤ 65535)) = false) → ((((decide ((65535 : Int) < (IntKind.wrap .u32 rn))) = true) → ((((decide ((IntKind.wrap .u32 rn) ≤ 1114111)) = true) → (((0 : Int) ≤ 18) ∧ (((0 : Int) ≤ 12) ∧ (((0 : Int) ≤ 6) ∧ (((((List.length o) + (List.length [[(FV.int .u8 (IntKind.wrap .u8 (((BitVec.toNat ((BitVec.ofInt 8 240) ||| (BitVec.ofInt 8 (IntKind.wrap .u8 (Int.fdiv rn (2 ^ (min (Int.toNat 18) 32))))))) : Nat) : Int)))], [(FV.int .u8 (IntKind.wrap .u8 (((BitVec.toNat ((BitVec.ofInt 8 128) ||| (BitVec.ofInt 8 (IntKind.wrap .u8 (((BitVec.toNat ((BitVec.ofInt 8 (IntKind.wrap .u8 (Int.fdiv rn (2 ^ (min (Int.toNat 12) 32))))) &&& (BitVec.ofInt 8 63))) : Nat) : Int))))) : Nat) : Int)))], [(FV.int .u8 (IntKind.wrap .u8 (((BitVec.toNat ((BitVec.ofInt 8 128) ||| (BitVec.ofInt 8 (IntKind.wrap .u8 (((BitVec.toNat ((BitVec.ofInt 8 (IntKind.wrap .u8 (Int.fdiv rn (2 ^ (min (Int.toNat 6) 32))))) &&& (BitVec.ofInt 8 63))) : Nat) : Int))))) : Nat) : Int)))], [(FV.int .u8 (IntKind.wrap .u8 (((BitVec.toNat ((BitVec.ofInt 8 128) ||| (BitVec.ofInt 8 (IntKind.wrap .u8 (((BitVec.toNat ((BitVec.ofInt 8 (IntKind.wrap .u8 rn)) &&& (BitVec.ofInt 8 63))) : Nat) : Int))))) : Nat) : Int)))]])) * 1) ≤ 220000000000000) ∧ (R (TV.one (AV.ofl 1 1)) [Ob.no, (Ob.f 0 1 (o ++ [[(FV.int .u8 (IntKind.wrap .u8 (((BitVec.toNat ((BitVec.ofInt 8 240) ||| (BitVec.ofInt 8 (IntKind.wrap .u8 (Int.fdiv rn (2 ^ (min (Int.toNat 18) 32))))))) : Nat) : Int)))], [(FV.int .u8 (IntKind.wrap .u8 (((BitVec.toNat ((BitVec.ofInt 8 128) ||| (BitVec.ofInt 8 (IntKind.wrap .u8 (((BitVec.toNat ((BitVec.ofInt 8 (IntKind.wrap .u8 (Int.fdiv rn (2 ^ (min (Int.toNat 12) 32))))) &&& (BitVec.ofInt 8 63))) : Nat) : Int))))) : Nat) : Int)))], [(FV.int .u8 (IntKind.wrap .u8 (((BitVec.toNat ((BitVec.ofInt 8 128) ||| (BitVec.ofInt 8 (IntKind.wrap .u8 (((BitVec.toNat ((BitVec.ofInt 8 (IntKind.wrap .u8 (Int.fdiv rn (2 ^ (min (Int.toNat 6) 32))))) &&& (BitVec.ofInt 8 63))) : Nat) : Int))))) : Nat) : Int)))], [(FV.int .u8 (IntKind.wrap .u8 (((BitVec.toNat ((BitVec.ofInt 8 128) ||| (BitVec.ofInt 8 (IntKind.wrap .u8 (((BitVec.toNat ((BitVec.ofInt 8 (IntKind.wrap .u8 rn)) &&& (BitVec.ofInt 8 63))) : Nat) : Int))))) : Nat) : Int)))]]))])))))) ∧ (((decide ((IntKind.wrap .u32 rn) ≤ 1114111)) = false) → (((((List.length o) + (List.length [[(FV.int .u8 239)], [(FV.int .u8 191)], [(FV.int .u8 189)]])) * 1) ≤ 220000000000000) ∧ (R (TV.one (AV.ofl 1 1)) [Ob.no, (Ob.f 0 1 (o ++ [[(FV.int .u8 239)], [(FV.int .u8 191)], [(FV.int .u8 189)]]))]))))) ∧ (((decide ((65535 : Int) < (IntKind.wrap .u32 rn))) = false) → (((((List.length o) + (List.length [[(FV.int .u8 239)], [(FV.int .u8 191)], [(FV.int .u8 189)]])) * 1) ≤ 220000000000000) ∧ (R (TV.one (AV.ofl 1 1)) [Ob.no, (Ob.f 0 1 (o ++ [[(FV.int .u8 239)], [(FV.int .u8 191)], [(FV.int .u8 189)]]))]))))))) ∧ (((decide ((57343 : Int) < (IntKind.wrap .u32 rn))) = false) → ((((decide ((65535 : Int) < (IntKind.wrap .u32 rn))) = true) → ((((decide ((IntKind.wrap .u32 rn) ≤ 1114111)) = true) → (((0 : Int) ≤ 18) ∧ (((0 : Int) ≤ 12) ∧ (((0 : Int) ≤ 6) ∧ (((((List.length o) + (List.length [[(FV.int .u8 (IntKind.wrap .u8 (((BitVec.toNat ((BitVec.ofInt 8 240) ||| (BitVec.ofInt 8 (IntKind.wrap .u8 (Int.fdiv rn (2 ^ (min (Int.toNat 18) 32))))))) : Nat) : Int)))], [(FV.int .u8 (IntKind.wrap .u8 (((BitVec.toNat ((BitVec.ofInt 8 128) ||| (BitVec.ofInt 8 (IntKind.wrap .u8 (((BitVec.toNat ((BitVec.ofInt 8 (IntKind.wrap .u8 (Int.fdiv rn (2 ^ (min (Int.toNat 12) 32))))) &&& (BitVec.ofInt 8 63))) : Nat) : Int))))) : Nat) : Int)))], [(FV.int .u8 (IntKind.wrap .u8 (((BitVec.toNat ((BitVec.ofInt 8 128) ||| (BitVec.ofInt 8 (IntKind.wrap .u8 (((BitVec.toNat ((BitVec.ofInt 8 (IntKind.wrap .u8 (Int.fdiv rn (2 ^ (min (Int.toNat 6) 32))))) &&& (BitVec.ofInt 8 63))) : Nat) : Int))))) : Nat) : Int)))], [(FV.int .u8 (IntKind.wrap .u8 (((BitVec.toNat ((BitVec.ofInt 8 128) ||| (BitVec.ofInt 8 (IntKind.wrap .u8 (((BitVec.toNat ((BitVec.ofInt 8 (IntKind.wrap .u8 rn)) &&& (BitVec.ofInt 8 63))) : Nat) : Int))))) : Nat) : Int)))]])) * 1) ≤ 220000000000000) ∧ (R (TV.one (AV.ofl 1 1)) [Ob.no, (Ob.f 0 1 (o ++ [[(FV.int .u8 (IntKind.wrap .u8 (((BitVec.toNat ((BitVec.ofInt 8 240) ||| (BitVec.ofInt 8 (IntKind.wrap .u8 (Int.fdiv rn (2 ^ (min (Int.toNat 18) 32))))))) : Nat) : Int)))], [(FV.int .u8 (IntKind.wrap .u8 (((BitVec.toNat ((BitVec.ofInt 8 128) ||| (BitVec.ofInt 8 (IntKind.wrap .u8 (((BitVec.toNat ((BitVec.ofInt 8 (IntKind.wrap .u8 (Int.fdiv rn (2 ^ (min (Int.toNat 12) 32))))) &&& (BitVec.ofInt 8 63))) : Nat) : Int))))) : Nat) : Int)))], [(FV.int .u8 (IntKind.wrap .u8 (((BitVec.toNat ((BitVec.ofInt 8 128) ||| (BitVec.ofInt 8 (IntKind.wrap .u8 (((BitVec.toNat ((BitVec.ofInt 8 (IntKind.wrap .u8 (Int.fdiv rn (2 ^ (min (Int.toNat 6) 32))))) &&& (BitVec.ofInt 8 63))) : Nat) : Int))))) : Nat) : Int)))], [(FV.int .u8 (IntKind.wrap .u8 (((BitVec.toNat ((BitVec.ofInt 8 128) ||| (BitVec.ofInt 8 (IntKind.wrap .u8 (((BitVec.toNat ((BitVec.ofInt 8 (IntKind.wrap .u8 rn)) &&& (BitVec.ofInt 8 63))) : Nat) : Int))))) : Nat) : Int)))]]))])))))) ∧ (((decide ((IntKind.wrap .u32 rn) ≤ 1114111)) = false) → (((((List.length o) + (List.length [[(FV.int .u8 239)], [(FV.int .u8 191)], [(FV.int .u8 189)]])) * 1) ≤ 220000000000000) ∧ (R (TV.one (AV.ofl 1 1)) [Ob.no, (Ob.f 0 1 (o ++ [[(FV.int .u8 239)], [(FV.int .u8 191)], [(FV.int .u8 189)]]))]))))) ∧ (((decide ((65535 : Int) < (IntKind.wrap .u32 rn))) = false) → (((((List.length o) + (List.length [[(FV.int .u8 239)], [(FV.int .u8 191)], [(FV.int .u8 189)]])) * 1) ≤ 220000000000000) ∧ (R (TV.one (AV.ofl 1 1)) [Ob.no, (Ob.f 0 1 (o ++ [[(FV.int .u8 239)], [(FV.int .u8 191)], [(FV.int .u8 189)]]))]))))))))))
theorem unicode_utf8_appendRuneNonASCII1_fn (rn : Int) (o : List (List FV)) {r : TV} {h : List Ob} (H : unicode_utf8_appendRuneNonASCII1_H (fun r' h' => r' = r ∧ Wk h' h) rn o) : Fn Tryz.prog 170 [(TV.one (AV.ofl 1 0)), (TV.one (AV.fz (FV.int .i32 rn)))] [(Ob.f 0 1 o)] r h :=
  Fn.by_trW (M := (modeOf [] [])) (lv := unicode_utf8_appendRuneNonASCII1_lv) (own := (some 1)) (F := Tryz.f170) (by kernel_rfl) (by kernel_rfl) (by first | decide | simp) (fun _ _ h => h) (by kernel_rfl) H
def unicode_utf8_ValidRune_lv : List Nat → Keep := lvOf []
def unicode_utf8_ValidRune_H (R : TV → List Ob → Prop) (r_ : Int) : Prop :=
  ((((decide ((0 : Int) ≤ r_)) = true) → ((((decide (r_ < 55296)) = true) → (R (TV.one (AV.fz (FV.bool true))) [])) ∧ (((decide (r_ < 55296)) = false) → ((((decide ((57343 : Int) < r_)) = true) → ((((decide (r_ ≤ 1114111)) = true) → (R (TV.one (AV.fz (FV.bool true))) [])) ∧ (((decide (r_ ≤ 1114111)) = false) → (R (TV.one (AV.fz (FV.bool false))) [])))) ∧ (((decide ((57343 : Int) < r_)) = false) → (R (TV.one (AV.fz (FV.bool false))) [])))))) ∧ (((decide ((0 : Int) ≤ r_)) = false) → ((((decide ((57343 : Int) < r_)) = true) → ((((decide (r_ ≤ 1114111)) = true) → (R (TV.one (AV.fz (FV.bool true))) [])) ∧ (((decide (r_ ≤ 1114111)) = false) → (R (TV.one (AV.fz (FV.bool false))) [])))) ∧ (((decide ((57343 : Int) < r_)) = false) → (R (TV.one (AV.fz (FV.bool false))) [])))))
theorem unicode_utf8_ValidRune_fn (r_ : Int) {r : TV} {h : List Ob} (H : unicode_utf8_ValidRune_H (fun r' h' => r' = r ∧ h' = h) r_) : Fn Tryz.prog 75 [(TV.one (AV.fz (FV.int .i32 r_)))] [] r h :=
  Fn.by_tr (M := (modeOf [] [])) (lv := unicode_utf8_ValidRune_lv) (own := none) (F := Tryz.f75) (by kernel_rfl) (by kernel_rfl) (by first | decide | simp) (fun _ _ h => h) (by kernel_rfl) H
def strings_CutPrefix_lv : List Nat → Keep := lvOf []
def strings_CutPrefix_H (R : TV → List Ob → Prop) (s : ByteArray) (prefix_ : ByteArray) : Prop :=
  (∃ s2 : ByteArray, (∃ b1 : Bool, ((Fn Tryz.prog 171 [(TV.one (AV.fz (FV.str s))), (TV.one (AV.fz (FV.str prefix_)))] [] (TV.tup [(false, [(AV.fz (FV.str s2))]), (false, [(AV.fz (FV.bool b1))])]) []) ∧ (R (TV.tup [(false, [(AV.fz (FV.str s2))]), (false, [(AV.fz (FV.bool b1))])]) []))))
theorem strings_CutPrefix_fn (s : ByteArray) (prefix_ : ByteArray) {r : TV} {h : List Ob} (H : strings_CutPrefix_H (fun r' h' => r' = r ∧ h' = h) s prefix_) : Fn Tryz.prog 154 [(TV.one (AV.fz (FV.str s))), (TV.one (AV.fz (FV.str prefix_)))] [] r h :=
  Fn.by_tr (M := (modeOf [] [])) (lv := strings_CutPrefix_lv) (own := none) (F := Tryz.f154) (by kernel_rfl) (by kernel_rfl) (by first | decide | simp) (fun _ _ h => h) (by kernel_rfl) H
def internal_stringslite_CutPrefix_lv : List Nat → Keep := lvOf []
def internal_stringslite_CutPrefix_H (R : TV → List Ob → Prop) (s : ByteArray) (prefix_ : ByteArray) : Prop :=
  (∃ b1 : Bool, ((Fn Tryz.prog 88 [(TV.one (AV.fz (FV.str s))), (TV.one (AV.fz (FV.str prefix_)))] [] (TV.one (AV.fz (FV.bool b1))) []) ∧ ((((Bool.not b1) = true) → (R (TV.tup [(false, [(AV.fz (FV.str s))]), (false, [(AV.fz (FV.bool false))])]) [])) ∧ (((Bool.not b1) = false) → ((((0 : Int) ≤ (((ByteArray.size prefix_) : Nat) : Int)) ∧ ((((ByteArray.size prefix_) : Nat) : Int) ≤ (((ByteArray.size s) : Nat) : Int))) ∧ (R (TV.tup [(false, [(AV.fz (FV.str (ByteArray.extract s (Int.toNat (((ByteArray.size prefix_) : Nat) : Int)) (ByteArray.size s))))]), (false, [(AV.fz (FV.bool true))])]) []))))))
theorem internal_stringslite_CutPrefix_fn (s : ByteArray) (prefix_ : ByteArray) {r : TV} {h : List Ob} (H : internal_stringslite_CutPrefix_H (fun r' h' => r' = r ∧ h' = h) s prefix_) : Fn Tryz.prog 171 [(TV.one (AV.fz (FV.str s))), (TV.one (AV.fz (FV.str prefix_)))] [] r h :=
  Fn.by_tr (M := (modeOf [] [])) (lv := internal_stringslite_CutPrefix_lv) (own := none) (F := Tryz.f171) (by kernel_rfl) (by kernel_rfl) (by first | decide | simp) (fun _ _ h => h) (by kernel_rfl) H
def internal_stringslite_HasPrefix_lv : List Nat → Keep := lvOf []
def internal_stringslite_HasPrefix_H (R : TV → List Ob → Prop) (s : ByteArray) (prefix_ : ByteArray) : Prop :=
  ((((decide ((((ByteArray.size prefix_) : Nat) : Int) ≤ (((ByteArray.size s) : Nat) : Int))) = true) → ((((0 : Int) ≤ (((ByteArray.size prefix_) : Nat) : Int)) ∧ ((((ByteArray.size prefix_) : Nat) : Int) ≤ (((ByteArray.size s) : Nat) : Int))) ∧ (R (TV.one (AV.fz (FV.bool ((ByteArray.toList (ByteArray.extract s 0 (Int.toNat (((ByteArray.size prefix_) : Nat) : Int)))) == (ByteArray.toList prefix_))))) []))) ∧ (((decide ((((ByteArray.size prefix_) : Nat) : Int) ≤ (((ByteArray.size s) : Nat) : Int))) = false) → (R (TV.one (AV.fz (FV.bool false))) [])))
theorem internal_stringslite_HasPrefix_fn (s : ByteArray) (prefix_ : ByteArray) {r : TV} {h : List Ob} (H : internal_stringslite_HasPrefix_H (fun r' h' => r' = r ∧ h' = h) s prefix_) : Fn Tryz.prog 88 [(TV.one (AV.fz (FV.str s))), (TV.one (AV.fz (FV.str prefix_)))] [] r h :=
  Fn.by_tr (M := (modeOf [] [])) (lv := internal_stringslite_HasPrefix_lv) (own := none) (F := Tryz.f88) (by kernel_rfl) (by kernel_rfl) (by first | decide | simp) (fun _ _ h => h) (by kernel_rfl) H
def internal_strconv_lower_lv : List Nat → Keep := lvOf []
def internal_strconv_lower_H (R : TV → List Ob → Prop) (c : Int) : Prop :=
  (R (TV.one (AV.fz (FV.int .u8 (IntKind.wrap .u8 (((BitVec.toNat ((BitVec.ofInt 8 c) ||| (BitVec.ofInt 8 32))) : Nat) : Int))))) [])
theorem internal_strconv_lower_fn (c : Int) {r : TV} {h : List Ob} (H : internal_strconv_lower_H (fun r' h' => r' = r ∧ h' = h) c) : Fn Tryz.prog 174 [(TV.one (AV.fz (FV.int .u8 c)))] [] r h :=
  Fn.by_tr (M := (modeOf [] [])) (lv := internal_strconv_lower_lv) (own := none) (F := Tryz.f174) (by kernel_rfl) (by kernel_rfl) (by first | decide | simp) (fun _ _ h => h) (by kernel_rfl) H
end Go.Proofs.YtejefchehdifhaaGreatDoor.Ev
end
section
set_option linter.unusedVariables false
set_option maxRecDepth 100000
namespace Go.Proofs.YtejefchehdifhaaGreatDoor.Ev
open Go
def token_scanner_leftO_lv : List Nat → Keep := lvOf []
def token_scanner_leftO_H (R : TV → List Ob → Prop) (n : Int) (tx : List (List FV)) (p : Int) : Prop :=
  (R (TV.one (AV.fz (FV.bool (decide ((IntKind.wrap .i64 (p + n)) ≤ (((List.length tx) : Nat) : Int)))))) [(Ob.g 66 [(AV.fz (FV.sl 1 tx)), (AV.fz (FV.int .i64 p))])])
theorem token_scanner_leftO_fn (n : Int) (tx : List (List FV)) (p : Int) {r : TV} {h : List Ob} (H : token_scanner_leftO_H (fun r' h' => r' = r ∧ Wk h' h) n tx p) : Fn Tryz.prog 36 [(TV.one (AV.ptr 0 0 0 66)), (TV.one (AV.fz (FV.int .i64 n)))] [(Ob.g 66 [(AV.fz (FV.sl 1 tx)), (AV.fz (FV.int .i64 p))])] r h :=
  Fn.by_trW (M := (modeOf [] [])) (lv := token_scanner_leftO_lv) (own := (some 1)) (F := Tryz.f36) (by kernel_rfl) (by kernel_rfl) (by first | decide | simp) (fun _ _ h => h) (by kernel_rfl) H
def token_scanner_peekO_lv : List Nat → Keep := lvOf []
def token_scanner_peekO_H (R : TV → List Ob → Prop) (n : Int) (tx : List (List FV)) (p : Int) : Prop :=
  (∃ es1 : List (List FV), (∃ n3 : Int, (∃ b1 : Bool, ((Fn Tryz.prog 36 [(TV.one (AV.ptr 0 0 0 66)), (TV.one (AV.fz (FV.int .i64 (IntKind.wrap .i64 (n + 1)))))] [(Ob.g 66 [(AV.fz (FV.sl 1 tx)), (AV.fz (FV.int .i64 p))])] (TV.one (AV.fz (FV.bool b1))) [(Ob.g 66 [(AV.fz (FV.sl 1 es1)), (AV.fz (FV.int .i64 n3))])]) ∧ ((((Bool.not b1) = true) → (R (TV.one (AV.fz (FV.int .i64 (-1)))) [(Ob.g 66 [(AV.fz (FV.sl 1 es1)), (AV.fz (FV.int .i64 n3))])])) ∧ (((Bool.not b1) = false) → (((0 : Int) ≤ (IntKind.wrap .i64 (n3 + n))) ∧ (∃ n4 : Int, (((es1)[(Int.toNat (IntKind.wrap .i64 (n3 + n)))]? = (some [(FV.int .i64 n4)])) ∧ (R (TV.one (AV.fz (FV.int .i64 n4))) [(Ob.g 66 [(AV.fz (FV.sl 1 es1)), (AV.fz (FV.int .i64 n3))])]))))))))))
theorem token_scanner_peekO_fn (n : Int) (tx : List (List FV)) (p : Int) {r : TV} {h : List Ob} (H : token_scanner_peekO_H (fun r' h' => r' = r ∧ Wk h' h) n tx p) : Fn Tryz.prog 76 [(TV.one (AV.ptr 0 0 0 66)), (TV.one (AV.fz (FV.int .i64 n)))] [(Ob.g 66 [(AV.fz (FV.sl 1 tx)), (AV.fz (FV.int .i64 p))])] r h :=
  Fn.by_trW (M := (modeOf [] [(36, [(Sig.mk 1 [(false, [(AT.k CK.bool)])] [(OT.g 66 [(AT.k (CK.sl 1)), (AT.k (CK.int .i64))])] 0)])])) (lv := token_scanner_peekO_lv) (own := (some 1)) (F := Tryz.f76) (by kernel_rfl) (by kernel_rfl) (by first | decide | simp) (fun _ _ h => h) (by kernel_rfl) H
def token_scanner_blanksO_lv : List Nat → Keep := lvOf [([0], ⟨1, 0, [], false, false⟩), ([0, 0, 1, 1, 1, 0, 1, 0, 0, 0], ⟨1, 0, [], false, false⟩)]
def token_scanner_blanksO_S0 (o : List (List FV)) (o1 : Int) : St := (St.mk [(TV.one (AV.ptr 0 0 0 66)), TV.und, TV.und, TV.und, TV.und, TV.und, TV.und, TV.und, TV.und, TV.und, TV.und, TV.und, TV.und, TV.und, TV.und, TV.und, TV.und, TV.und, TV.und, TV.und, TV.und, TV.und, TV.und, TV.und, TV.und, TV.und, TV.und, TV.und, TV.und, TV.und, TV.und, TV.und, TV.und, TV.und, TV.und, TV.und] [(Ob.g 66 [(AV.fz (FV.sl 1 o)), (AV.fz (FV.int .i64 o1))])])
def token_scanner_blanksO_L0 (R : TV → List Ob → Prop) (o : List (List FV)) (o1 : Int) : Prop := LoopAt Tryz.prog (modeOf [] [(36, [(Sig.mk 1 [(false, [(AT.k CK.bool)])] [(OT.g 66 [(AT.k (CK.sl 1)), (AT.k (CK.int .i64))])] 0)]), (76, [(Sig.mk 1 [(false, [(AT.k (CK.int .i64))])] [(OT.g 66 [(AT.k (CK.sl 1)), (AT.k (CK.int .i64))])] 0)])]) token_scanner_blanksO_lv Tryz.f35 (some 1) R [0] (token_scanner_blanksO_S0 o o1)
def token_scanner_blanksO_S1 (es : List (List FV)) (n : Int) : St := (St.mk [(TV.one (AV.ptr 0 0 0 66)), TV.und, TV.und, TV.und, TV.und, TV.und, TV.und, TV.und, TV.und, TV.und, TV.und, TV.und, TV.und, TV.und, TV.und, TV.und, TV.und, TV.und, TV.und, TV.und, TV.und, TV.und, TV.und, TV.und, TV.und, TV.und, TV.und, TV.und, TV.und, TV.und, TV.und, TV.und, TV.und, TV.und, TV.und, TV.und] [(Ob.g 66 [(AV.fz (FV.sl 1 es)), (AV.fz (FV.int .i64 n))])])
def token_scanner_blanksO_L1 (R : TV → List Ob → Prop) (es : List (List FV)) (n : Int) : Prop := LoopAt Tryz.prog (modeOf [] [(36, [(Sig.mk 1 [(false, [(AT.k CK.bool)])] [(OT.g 66 [(AT.k (CK.sl 1)), (AT.k (CK.int .i64))])] 0)]), (76, [(Sig.mk 1 [(false, [(AT.k (CK.int .i64))])] [(OT.g 66 [(AT.k (CK.sl 1)), (AT.k (CK.int .i64))])] 0)])]) token_scanner_blanksO_lv Tryz.f35 (some 1) R [0, 0, 0, 1, 0, 1, 1, 1, 0, 0] (token_scanner_blanksO_S1 es n)
def token_scanner_blanksO_R0 (R : TV → List Ob → Prop) (o : List (List FV)) (o1 : Int) : Prop :=
  (∃ es4 : List (List FV), (∃ n7 : Int, (∃ n8 : Int, ((Fn Tryz.prog 76 [(TV.one (AV.ptr 0 0 0 66)), (TV.one (AV.fz (FV.int .i64 0)))] [(Ob.g 66 [(AV.fz (FV.sl 1 o)), (AV.fz (FV.int .i64 o1))])] (TV.one (AV.fz (FV.int .i64 n8))) [(Ob.g 66 [(AV.fz (FV.sl 1 es4)), (AV.fz (FV.int .i64 n7))])]) ∧ ((((decide ((0 : Int) ≤ n8)) = true) → (∃ b3 : Bool, ((Fn Tryz.prog 77 [(TV.one (AV.fz (FV.int .i64 n8)))] [] (TV.one (AV.fz (FV.bool b3))) []) ∧ (((b3 = true) → (token_scanner_blanksO_L0 R es4 (IntKind.wrap .i64 (n7 + 1)))) ∧ ((b3 = false) → ((((n8 == 59) = true) → (token_scanner_blanksO_L1 R es4 n7)) ∧ (((n8 == 59) = false) → (R (TV.tup []) [(Ob.g 66 [(AV.fz (FV.sl 1 es4)), (AV.fz (FV.int .i64 n7))])])))))))) ∧ (((decide ((0 : Int) ≤ n8)) = false) → ((((n8 == 59) = true) → (token_scanner_blanksO_L1 R es4 n7)) ∧ (((n8 == 59) = false) → (R (TV.tup []) [(Ob.g 66 [(AV.fz (FV.sl 1 es4)), (AV.fz (FV.int .i64 n7))])])))))))))
theorem token_scanner_blanksO_l0 {R : TV → List Ob → Prop} {o : List (List FV)} {o1 : Int} (h : token_scanner_blanksO_R0 R o o1) : token_scanner_blanksO_L0 R o o1 :=
  LoopAt.by_tr (by kernel_rfl) (by kernel_rfl) h
def token_scanner_blanksO_R1 (R : TV → List Ob → Prop) (es : List (List FV)) (n : Int) : Prop :=
  (∃ es4 : List (List FV), (∃ n7 : Int, (∃ b3 : Bool, ((Fn Tryz.prog 36 [(TV.one (AV.ptr 0 0 0 66)), (TV.one (AV.fz (FV.int .i64 1)))] [(Ob.g 66 [(AV.fz (FV.sl 1 es)), (AV.fz (FV.int .i64 n))])] (TV.one (AV.fz (FV.bool b3))) [(Ob.g 66 [(AV.fz (FV.sl 1 es4)), (AV.fz (FV.int .i64 n7))])]) ∧ (((b3 = true) → (∃ es5 : List (List FV), (∃ n8 : Int, (∃ n9 : Int, ((Fn Tryz.prog 76 [(TV.one (AV.ptr 0 0 0 66)), (TV.one (AV.fz (FV.int .i64 0)))] [(Ob.g 66 [(AV.fz (FV.sl 1 es4)), (AV.fz (FV.int .i64 n7))])] (TV.one (AV.fz (FV.int .i64 n9))) [(Ob.g 66 [(AV.fz (FV.sl 1 es5)), (AV.fz (FV.int .i64 n8))])]) ∧ ((((n9 != 10) = true) → (token_scanner_blanksO_L1 R es5 (IntKind.wrap .i64 (n8 + 1)))) ∧ (((n9 != 10) = false) → (token_scanner_blanksO_L0 R es5 n8)))))))) ∧ ((b3 = false) → (token_scanner_blanksO_L0 R es4 n7)))))))
theorem token_scanner_blanksO_l1 {R : TV → List Ob → Prop} {es : List (List FV)} {n : Int} (h : token_scanner_blanksO_R1 R es n) : token_scanner_blanksO_L1 R es n :=
  LoopAt.by_tr (by kernel_rfl) (by kernel_rfl) h
def token_scanner_blanksO_H (R : TV → List Ob → Prop) (tx : List (List FV)) (p : Int) : Prop :=
  (token_scanner_blanksO_L0 R tx p)
theorem token_scanner_blanksO_fn (tx : List (List FV)) (p : Int) {r : TV} {h : List Ob} (H : token_scanner_blanksO_H (fun r' h' => r' = r ∧ Wk h' h) tx p) : Fn Tryz.prog 35 [(TV.one (AV.ptr 0 0 0 66))] [(Ob.g 66 [(AV.fz (FV.sl 1 tx)), (AV.fz (FV.int .i64 p))])] r h :=
  Fn.by_trW (M := (modeOf [] [(36, [(Sig.mk 1 [(false, [(AT.k CK.bool)])] [(OT.g 66 [(AT.k (CK.sl 1)), (AT.k (CK.int .i64))])] 0)]), (76, [(Sig.mk 1 [(false, [(AT.k (CK.int .i64))])] [(OT.g 66 [(AT.k (CK.sl 1)), (AT.k (CK.int .i64))])] 0)])])) (lv := token_scanner_blanksO_lv) (own := (some 1)) (F := Tryz.f35) (by kernel_rfl) (by kernel_rfl) (by first | decide | simp) (fun _ _ h => h) (by kernel_rfl) H
def token_scanner_whileO_lv : List Nat → Keep := lvOf [([0, 0, 1, 1, 1], ⟨33, 0, [], false, false⟩)]
def token_scanner_whileO_S0 (p : Int) (o : List (List FV)) (o1 : Int) : St := (St.mk [(TV.one (AV.ptr 0 0 0 66)), TV.und, TV.und, TV.und, TV.und, (TV.one (AV.fz (FV.int .i64 p))), TV.und, TV.und, TV.und, TV.und, TV.und, TV.und, TV.und, TV.und, TV.und, TV.und, TV.und, TV.und, TV.und, TV.und, TV.und, TV.und, TV.und, TV.und, TV.und, TV.und, TV.und, TV.und, TV.und, TV.und, TV.und, TV.und, TV.und, TV.und, TV.und, TV.und, TV.und, TV.und, TV.und, TV.und, TV.und, TV.und, TV.und, TV.und, TV.und, TV.und, TV.und, TV.und, TV.und, TV.und, TV.und] [(Ob.g 66 [(AV.fz (FV.sl 1 o)), (AV.fz (FV.int .i64 o1))])])
def token_scanner_whileO_L0 (R : TV → List Ob → Prop) (p : Int) (o : List (List FV)) (o1 : Int) : Prop := LoopAt Tryz.prog (modeOf [] [(36, [(Sig.mk 1 [(false, [(AT.k CK.bool)])] [(OT.g 66 [(AT.k (CK.sl 1)), (AT.k (CK.int .i64))])] 0)]), (76, [(Sig.mk 1 [(false, [(AT.k (CK.int .i64))])] [(OT.g 66 [(AT.k (CK.sl 1)), (AT.k (CK.int .i64))])] 0)])]) token_scanner_whileO_lv Tryz.f107 (some 1) R [1, 1, 1, 0, 0] (token_scanner_whileO_S0 p o o1)
def token_scanner_whileO_R0 (R : TV → List Ob → Prop) (p : Int) (o : List (List FV)) (o1 : Int) : Prop :=
  (∃ es8 : List (List FV), (∃ n15 : Int, (∃ b4 : Bool, ((Fn Tryz.prog 36 [(TV.one (AV.ptr 0 0 0 66)), (TV.one (AV.fz (FV.int .i64 1)))] [(Ob.g 66 [(AV.fz (FV.sl 1 o)), (AV.fz (FV.int .i64 o1))])] (TV.one (AV.fz (FV.bool b4))) [(Ob.g 66 [(AV.fz (FV.sl 1 es8)), (AV.fz (FV.int .i64 n15))])]) ∧ (((b4 = true) → (∃ es9 : List (List FV), (∃ n16 : Int, (∃ n17 : Int, ((Fn Tryz.prog 76 [(TV.one (AV.ptr 0 0 0 66)), (TV.one (AV.fz (FV.int .i64 0)))] [(Ob.g 66 [(AV.fz (FV.sl 1 es8)), (AV.fz (FV.int .i64 n15))])] (TV.one (AV.fz (FV.int .i64 n17))) [(Ob.g 66 [(AV.fz (FV.sl 1 es9)), (AV.fz (FV.int .i64 n16))])]) ∧ (∃ b5 : Bool, ((Fn Tryz.prog 51 [(TV.one (AV.fz (FV.int .i64 n17)))] [] (TV.one (AV.fz (FV.bool b5))) []) ∧ ((((Bool.not b5) = true) → (token_scanner_whileO_L0 R p es9 (IntKind.wrap .i64 (n16 + 1)))) ∧ (((Bool.not b5) = false) → ((((0 : Int) ≤ p) ∧ ((p ≤ n16) ∧ (n16 ≤ (((List.length es9) : Nat) : Int)))) ∧ (∃ es10 : List (List FV), (∃ n18 : Int, ((Fn Tryz.prog 129 [(TV.one (AV.fz (FV.sl 1 (List.drop (Int.toNat p) (List.take (Int.toNat n16) es9)))))] [] (TV.tup [(false, [(AV.fz (FV.sl 1 es10))]), (false, [(AV.fz (FV.int .i64 n18))])]) []) ∧ (∃ ns4 : List Int, ((es10 = (List.map (fun n19 => [(FV.int .u8 n19)]) ns4)) ∧ (R (TV.one (AV.fz (FV.str (bytesOf ns4)))) [(Ob.g 66 [(AV.fz (FV.sl 1 es9)), (AV.fz (FV.int .i64 n16))])])))))))))))))))) ∧ ((b4 = false) → ((((0 : Int) ≤ p) ∧ ((p ≤ n15) ∧ (n15 ≤ (((List.length es8) : Nat) : Int)))) ∧ (∃ es11 : List (List FV), (∃ n20 : Int, ((Fn Tryz.prog 129 [(TV.one (AV.fz (FV.sl 1 (List.drop (Int.toNat p) (List.take (Int.toNat n15) es8)))))] [] (TV.tup [(false, [(AV.fz (FV.sl 1 es11))]), (false, [(AV.fz (FV.int .i64 n20))])]) []) ∧ (∃ ns5 : List Int, ((es11 = (List.map (fun n21 => [(FV.int .u8 n21)]) ns5)) ∧ (R (TV.one (AV.fz (FV.str (bytesOf ns5)))) [(Ob.g 66 [(AV.fz (FV.sl 1 es8)), (AV.fz (FV.int .i64 n15))])])))))))))))))
theorem token_scanner_whileO_l0 {R : TV → List Ob → Prop} {p : Int} {o : List (List FV)} {o1 : Int} (h : token_scanner_whileO_R0 R p o o1) : token_scanner_whileO_L0 R p o o1 :=
  LoopAt.by_tr (by kernel_rfl) (by kernel_rfl) h
def token_scanner_whileO_H (R : TV → List Ob → Prop) (from_ : Int) (tx : List (List FV)) (p : Int) : Prop :=
  (token_scanner_whileO_L0 R p tx (IntKind.wrap .i64 (p + from_)))
theorem token_scanner_whileO_fn (from_ : Int) (tx : List (List FV)) (p : Int) {r : TV} {h : List Ob} (H : token_scanner_whileO_H (fun r' h' => r' = r ∧ Wk h' h) from_ tx p) : Fn Tryz.prog 107 [(TV.one (AV.ptr 0 0 0 66)), (TV.one (AV.fz (FV.int .i64 from_)))] [(Ob.g 66 [(AV.fz (FV.sl 1 tx)), (AV.fz (FV.int .i64 p))])] r h :=
  Fn.by_trW (M := (modeOf [] [(36, [(Sig.mk 1 [(false, [(AT.k CK.bool)])] [(OT.g 66 [(AT.k (CK.sl 1)), (AT.k (CK.int .i64))])] 0)]), (76, [(Sig.mk 1 [(false, [(AT.k (CK.int .i64))])] [(OT.g 66 [(AT.k (CK.sl 1)), (AT.k (CK.int .i64))])] 0)])])) (lv := token_scanner_whileO_lv) (own := (some 1)) (F := Tryz.f107) (by kernel_rfl) (by kernel_rfl) (by first | decide | simp) (fun _ _ h => h) (by kernel_rfl) H
def token_scanner_hereO_lv : List Nat → Keep := lvOf [([0, 1, 0, 1], ⟨387, 0, [], false, false⟩)]
def token_scanner_hereO_S0 (w : ByteArray) (i : Int) (o : List (List FV)) (o1 : Int) : St := (St.mk [(TV.one (AV.ptr 0 0 0 66)), (TV.one (AV.fz (FV.str w))), TV.und, TV.und, TV.und, TV.und, TV.und, (TV.one (AV.fz (FV.int .i64 (((ByteArray.size w) : Nat) : Int)))), (TV.one (AV.fz (FV.int .i64 i))), TV.und, TV.und, TV.und, TV.und, TV.und, TV.und, TV.und, TV.und, TV.und, TV.und, TV.und] [(Ob.g 66 [(AV.fz (FV.sl 1 o)), (AV.fz (FV.int .i64 o1))])])
def token_scanner_hereO_L0 (R : TV → List Ob → Prop) (w : ByteArray) (i : Int) (o : List (List FV)) (o1 : Int) : Prop := LoopAt Tryz.prog (modeOf [] [(76, [(Sig.mk 1 [(false, [(AT.k (CK.int .i64))])] [(OT.g 66 [(AT.k (CK.sl 1)), (AT.k (CK.int .i64))])] 0)])]) token_scanner_hereO_lv Tryz.f78 (some 1) R [1, 0, 1, 0] (token_scanner_hereO_S0 w i o o1)
def token_scanner_hereO_R0 (R : TV → List Ob → Prop) (w : ByteArray) (i : Int) (o : List (List FV)) (o1 : Int) : Prop :=
  ((((decide (i < (((ByteArray.size w) : Nat) : Int))) = true) → (∃ es2 : List (List FV), (∃ n4 : Int, (∃ n5 : Int, ((Fn Tryz.prog 76 [(TV.one (AV.ptr 0 0 0 66)), (TV.one (AV.fz (FV.int .i64 i)))] [(Ob.g 66 [(AV.fz (FV.sl 1 o)), (AV.fz (FV.int .i64 o1))])] (TV.one (AV.fz (FV.int .i64 n5))) [(Ob.g 66 [(AV.fz (FV.sl 1 es2)), (AV.fz (FV.int .i64 n4))])]) ∧ (((0 : Int) ≤ i) ∧ (∃ c2 : UInt8, ((((ByteArray.data w))[(Int.toNat i)]? = (some c2)) ∧ ((((n5 != (IntKind.wrap .i64 (((UInt8.toNat c2) : Nat) : Int))) = true) → (R (TV.one (AV.fz (FV.bool false))) [(Ob.g 66 [(AV.fz (FV.sl 1 es2)), (AV.fz (FV.int .i64 n4))])])) ∧ (((n5 != (IntKind.wrap .i64 (((UInt8.toNat c2) : Nat) : Int))) = false) → (token_scanner_hereO_L0 R w (IntKind.wrap .i64 (i + 1)) es2 n4))))))))))) ∧ (((decide (i < (((ByteArray.size w) : Nat) : Int))) = false) → (R (TV.one (AV.fz (FV.bool true))) [(Ob.g 66 [(AV.fz (FV.sl 1 o)), (AV.fz (FV.int .i64 o1))])])))
theorem token_scanner_hereO_l0 {R : TV → List Ob → Prop} {w : ByteArray} {i : Int} {o : List (List FV)} {o1 : Int} (h : token_scanner_hereO_R0 R w i o o1) : token_scanner_hereO_L0 R w i o o1 :=
  LoopAt.by_tr (by kernel_rfl) (by kernel_rfl) h
def token_scanner_hereO_H (R : TV → List Ob → Prop) (w : ByteArray) (tx : List (List FV)) (p : Int) : Prop :=
  (token_scanner_hereO_L0 R w 0 tx p)
theorem token_scanner_hereO_fn (w : ByteArray) (tx : List (List FV)) (p : Int) {r : TV} {h : List Ob} (H : token_scanner_hereO_H (fun r' h' => r' = r ∧ Wk h' h) w tx p) : Fn Tryz.prog 78 [(TV.one (AV.ptr 0 0 0 66)), (TV.one (AV.fz (FV.str w)))] [(Ob.g 66 [(AV.fz (FV.sl 1 tx)), (AV.fz (FV.int .i64 p))])] r h :=
  Fn.by_trW (M := (modeOf [] [(76, [(Sig.mk 1 [(false, [(AT.k (CK.int .i64))])] [(OT.g 66 [(AT.k (CK.sl 1)), (AT.k (CK.int .i64))])] 0)])])) (lv := token_scanner_hereO_lv) (own := (some 1)) (F := Tryz.f78) (by kernel_rfl) (by kernel_rfl) (by first | decide | simp) (fun _ _ h => h) (by kernel_rfl) H
def token_scanner_hexO_lv : List Nat → Keep := lvOf [([0, 0, 1, 1], ⟨9, 0, [], false, false⟩)]
def token_scanner_hexO_S0 (p : Int) (o : List (List FV)) (o1 : Int) : St := (St.mk [(TV.one (AV.ptr 0 0 0 66)), TV.und, TV.und, (TV.one (AV.fz (FV.int .i64 p))), TV.und, TV.und, TV.und, TV.und, TV.und, TV.und, TV.und, TV.und, TV.und, TV.und, TV.und, TV.und, TV.und, TV.und, TV.und, TV.und, TV.und, TV.und, TV.und, TV.und, TV.und, TV.und, TV.und, TV.und, TV.und, TV.und, TV.und, TV.und, TV.und, TV.und, TV.und, TV.und, TV.und, TV.und, TV.und, TV.und, TV.und, TV.und, TV.und, TV.und, TV.und, TV.und, TV.und, TV.und, TV.und, TV.und, TV.und, TV.und, TV.und, TV.und, TV.und, TV.und, TV.und, TV.und, TV.und, TV.und, TV.und, TV.und, TV.und, TV.und, TV.und, TV.und, TV.und, TV.und, TV.und, TV.und, TV.und, TV.und, TV.und, TV.und, TV.und, TV.und, TV.und] [(Ob.g 66 [(AV.fz (FV.sl 1 o)), (AV.fz (FV.int .i64 o1))])])
def token_scanner_hexO_L0 (R : TV → List Ob → Prop) (p : Int) (o : List (List FV)) (o1 : Int) : Prop := LoopAt Tryz.prog (modeOf [] [(36, [(Sig.mk 1 [(false, [(AT.k CK.bool)])] [(OT.g 66 [(AT.k (CK.sl 1)), (AT.k (CK.int .i64))])] 0)]), (76, [(Sig.mk 1 [(false, [(AT.k (CK.int .i64))])] [(OT.g 66 [(AT.k (CK.sl 1)), (AT.k (CK.int .i64))])] 0)])]) token_scanner_hexO_lv Tryz.f153 (some 1) R [1, 1, 0, 0] (token_scanner_hexO_S0 p o o1)
def token_scanner_hexO_R0 (R : TV → List Ob → Prop) (p : Int) (o : List (List FV)) (o1 : Int) : Prop :=
  (∃ es16 : List (List FV), (∃ n37 : Int, (∃ b8 : Bool, ((Fn Tryz.prog 36 [(TV.one (AV.ptr 0 0 0 66)), (TV.one (AV.fz (FV.int .i64 1)))] [(Ob.g 66 [(AV.fz (FV.sl 1 o)), (AV.fz (FV.int .i64 o1))])] (TV.one (AV.fz (FV.bool b8))) [(Ob.g 66 [(AV.fz (FV.sl 1 es16)), (AV.fz (FV.int .i64 n37))])]) ∧ (((b8 = true) → (∃ es17 : List (List FV), (∃ n38 : Int, (∃ n39 : Int, ((Fn Tryz.prog 76 [(TV.one (AV.ptr 0 0 0 66)), (TV.one (AV.fz (FV.int .i64 0)))] [(Ob.g 66 [(AV.fz (FV.sl 1 es16)), (AV.fz (FV.int .i64 n37))])] (TV.one (AV.fz (FV.int .i64 n39))) [(Ob.g 66 [(AV.fz (FV.sl 1 es17)), (AV.fz (FV.int .i64 n38))])]) ∧ ((((n39 != 59) = true) → ((((decide ((IntKind.wrap .i64 (n38 - p)) < 7)) = true) → (token_scanner_hexO_L0 R p es17 (IntKind.wrap .i64 (n38 + 1)))) ∧ (((decide ((IntKind.wrap .i64 (n38 - p)) < 7)) = false) → (∃ es18 : List (List FV), (∃ n40 : Int, (∃ n41 : Int, ((Fn Tryz.prog 76 [(TV.one (AV.ptr 0 0 0 66)), (TV.one (AV.fz (FV.int .i64 0)))] [(Ob.g 66 [(AV.fz (FV.sl 1 es17)), (AV.fz (FV.int .i64 n38))])] (TV.one (AV.fz (FV.int .i64 n41))) [(Ob.g 66 [(AV.fz (FV.sl 1 es18)), (AV.fz (FV.int .i64 n40))])]) ∧ ((((n41 != 59) = true) → (R (TV.one (AV.fz (FV.int .i64 (-1)))) [(Ob.g 66 [(AV.fz (FV.sl 1 es18)), (AV.fz (FV.int .i64 n40))])])) ∧ (((n41 != 59) = false) → ((((n40 == p) = true) → (R (TV.one (AV.fz (FV.int .i64 (-1)))) [(Ob.g 66 [(AV.fz (FV.sl 1 es18)), (AV.fz (FV.int .i64 n40))])])) ∧ (((n40 == p) = false) → ((((0 : Int) ≤ p) ∧ ((p ≤ n40) ∧ (n40 ≤ (((List.length es18) : Nat) : Int)))) ∧ (∃ es19 : List (List FV), (∃ n42 : Int, ((Fn Tryz.prog 129 [(TV.one (AV.fz (FV.sl 1 (List.drop (Int.toNat p) (List.take (Int.toNat n40) es18)))))] [] (TV.tup [(false, [(AV.fz (FV.sl 1 es19))]), (false, [(AV.fz (FV.int .i64 n42))])]) []) ∧ (∃ ns6 : List Int, ((es19 = (List.map (fun n43 => [(FV.int .u8 n43)]) ns6)) ∧ ((((ByteArray.size (ByteArray.mk #[120])) + (ByteArray.size (bytesOf ns6))) ≤ 9223372036854775807) ∧ (∃ n44 : Int, (∃ b9 : Bool, ((Fn Tryz.prog 131 [(TV.one (AV.fz (FV.str ((ByteArray.mk #[120]) ++ (bytesOf ns6)))))] [] (TV.tup [(false, [(AV.fz (FV.int .i64 n44))]), (false, [(AV.fz (FV.bool b9))])]) []) ∧ ((((Bool.not b9) = true) → (R (TV.one (AV.fz (FV.int .i64 (-1)))) [(Ob.g 66 [(AV.fz (FV.sl 1 es18)), (AV.fz (FV.int .i64 (IntKind.wrap .i64 (n40 + 1))))])])) ∧ (((Bool.not b9) = false) → (R (TV.one (AV.fz (FV.int .i64 n44))) [(Ob.g 66 [(AV.fz (FV.sl 1 es18)), (AV.fz (FV.int .i64 (IntKind.wrap .i64 (n40 + 1))))])])))))))))))))))))))))))) ∧ (((n39 != 59) = false) → (∃ es20 : List (List FV), (∃ n45 : Int, (∃ n46 : Int, ((Fn Tryz.prog 76 [(TV.one (AV.ptr 0 0 0 66)), (TV.one (AV.fz (FV.int .i64 0)))] [(Ob.g 66 [(AV.fz (FV.sl 1 es17)), (AV.fz (FV.int .i64 n38))])] (TV.one (AV.fz (FV.int .i64 n46))) [(Ob.g 66 [(AV.fz (FV.sl 1 es20)), (AV.fz (FV.int .i64 n45))])]) ∧ ((((n46 != 59) = true) → (R (TV.one (AV.fz (FV.int .i64 (-1)))) [(Ob.g 66 [(AV.fz (FV.sl 1 es20)), (AV.fz (FV.int .i64 n45))])])) ∧ (((n46 != 59) = false) → ((((n45 == p) = true) → (R (TV.one (AV.fz (FV.int .i64 (-1)))) [(Ob.g 66 [(AV.fz (FV.sl 1 es20)), (AV.fz (FV.int .i64 n45))])])) ∧ (((n45 == p) = false) → ((((0 : Int) ≤ p) ∧ ((p ≤ n45) ∧ (n45 ≤ (((List.length es20) : Nat) : Int)))) ∧ (∃ es21 : List (List FV), (∃ n47 : Int, ((Fn Tryz.prog 129 [(TV.one (AV.fz (FV.sl 1 (List.drop (Int.toNat p) (List.take (Int.toNat n45) es20)))))] [] (TV.tup [(false, [(AV.fz (FV.sl 1 es21))]), (false, [(AV.fz (FV.int .i64 n47))])]) []) ∧ (∃ ns7 : List Int, ((es21 = (List.map (fun n48 => [(FV.int .u8 n48)]) ns7)) ∧ ((((ByteArray.size (ByteArray.mk #[120])) + (ByteArray.size (bytesOf ns7))) ≤ 9223372036854775807) ∧ (∃ n49 : Int, (∃ b10 : Bool, ((Fn Tryz.prog 131 [(TV.one (AV.fz (FV.str ((ByteArray.mk #[120]) ++ (bytesOf ns7)))))] [] (TV.tup [(false, [(AV.fz (FV.int .i64 n49))]), (false, [(AV.fz (FV.bool b10))])]) []) ∧ ((((Bool.not b10) = true) → (R (TV.one (AV.fz (FV.int .i64 (-1)))) [(Ob.g 66 [(AV.fz (FV.sl 1 es20)), (AV.fz (FV.int .i64 (IntKind.wrap .i64 (n45 + 1))))])])) ∧ (((Bool.not b10) = false) → (R (TV.one (AV.fz (FV.int .i64 n49))) [(Ob.g 66 [(AV.fz (FV.sl 1 es20)), (AV.fz (FV.int .i64 (IntKind.wrap .i64 (n45 + 1))))])])))))))))))))))))))))))))))) ∧ ((b8 = false) → (∃ es22 : List (List FV), (∃ n50 : Int, (∃ n51 : Int, ((Fn Tryz.prog 76 [(TV.one (AV.ptr 0 0 0 66)), (TV.one (AV.fz (FV.int .i64 0)))] [(Ob.g 66 [(AV.fz (FV.sl 1 es16)), (AV.fz (FV.int .i64 n37))])] (TV.one (AV.fz (FV.int .i64 n51))) [(Ob.g 66 [(AV.fz (FV.sl 1 es22)), (AV.fz (FV.int .i64 n50))])]) ∧ ((((n51 != 59) = true) → (R (TV.one (AV.fz (FV.int .i64 (-1)))) [(Ob.g 66 [(AV.fz (FV.sl 1 es22)), (AV.fz (FV.int .i64 n50))])])) ∧ (((n51 != 59) = false) → ((((n50 == p) = true) → (R (TV.one (AV.fz (FV.int .i64 (-1)))) [(Ob.g 66 [(AV.fz (FV.sl 1 es22)), (AV.fz (FV.int .i64 n50))])])) ∧ (((n50 == p) = false) → ((((0 : Int) ≤ p) ∧ ((p ≤ n50) ∧ (n50 ≤ (((List.length es22) : Nat) : Int)))) ∧ (∃ es23 : List (List FV), (∃ n52 : Int, ((Fn Tryz.prog 129 [(TV.one (AV.fz (FV.sl 1 (List.drop (Int.toNat p) (List.take (Int.toNat n50) es22)))))] [] (TV.tup [(false, [(AV.fz (FV.sl 1 es23))]), (false, [(AV.fz (FV.int .i64 n52))])]) []) ∧ (∃ ns8 : List Int, ((es23 = (List.map (fun n53 => [(FV.int .u8 n53)]) ns8)) ∧ ((((ByteArray.size (ByteArray.mk #[120])) + (ByteArray.size (bytesOf ns8))) ≤ 9223372036854775807) ∧ (∃ n54 : Int, (∃ b11 : Bool, ((Fn Tryz.prog 131 [(TV.one (AV.fz (FV.str ((ByteArray.mk #[120]) ++ (bytesOf ns8)))))] [] (TV.tup [(false, [(AV.fz (FV.int .i64 n54))]), (false, [(AV.fz (FV.bool b11))])]) []) ∧ ((((Bool.not b11) = true) → (R (TV.one (AV.fz (FV.int .i64 (-1)))) [(Ob.g 66 [(AV.fz (FV.sl 1 es22)), (AV.fz (FV.int .i64 (IntKind.wrap .i64 (n50 + 1))))])])) ∧ (((Bool.not b11) = false) → (R (TV.one (AV.fz (FV.int .i64 n54))) [(Ob.g 66 [(AV.fz (FV.sl 1 es22)), (AV.fz (FV.int .i64 (IntKind.wrap .i64 (n50 + 1))))])])))))))))))))))))))))))))))
theorem token_scanner_hexO_l0 {R : TV → List Ob → Prop} {p : Int} {o : List (List FV)} {o1 : Int} (h : token_scanner_hexO_R0 R p o o1) : token_scanner_hexO_L0 R p o o1 :=
  LoopAt.by_tr (by kernel_rfl) (by kernel_rfl) h
def token_scanner_hexO_H (R : TV → List Ob → Prop) (tx : List (List FV)) (p : Int) : Prop :=
  (token_scanner_hexO_L0 R p tx p)
theorem token_scanner_hexO_fn (tx : List (List FV)) (p : Int) {r : TV} {h : List Ob} (H : token_scanner_hexO_H (fun r' h' => r' = r ∧ Wk h' h) tx p) : Fn Tryz.prog 153 [(TV.one (AV.ptr 0 0 0 66))] [(Ob.g 66 [(AV.fz (FV.sl 1 tx)), (AV.fz (FV.int .i64 p))])] r h :=
  Fn.by_trW (M := (modeOf [] [(36, [(Sig.mk 1 [(false, [(AT.k CK.bool)])] [(OT.g 66 [(AT.k (CK.sl 1)), (AT.k (CK.int .i64))])] 0)]), (76, [(Sig.mk 1 [(false, [(AT.k (CK.int .i64))])] [(OT.g 66 [(AT.k (CK.sl 1)), (AT.k (CK.int .i64))])] 0)])])) (lv := token_scanner_hexO_lv) (own := (some 1)) (F := Tryz.f153) (by kernel_rfl) (by kernel_rfl) (by first | decide | simp) (fun _ _ h => h) (by kernel_rfl) H
def token_scanner_escapeO_lv : List Nat → Keep := lvOf []
def token_scanner_escapeO_H (R : TV → List Ob → Prop) (tx : List (List FV)) (p : Int) : Prop :=
  (∃ es2 : List (List FV), (∃ n4 : Int, (∃ n5 : Int, ((Fn Tryz.prog 76 [(TV.one (AV.ptr 0 0 0 66)), (TV.one (AV.fz (FV.int .i64 0)))] [(Ob.g 66 [(AV.fz (FV.sl 1 tx)), (AV.fz (FV.int .i64 p))])] (TV.one (AV.fz (FV.int .i64 n5))) [(Ob.g 66 [(AV.fz (FV.sl 1 es2)), (AV.fz (FV.int .i64 n4))])]) ∧ ((((n5 == 110) = true) → (R (TV.one (AV.fz (FV.int .i64 10))) [(Ob.g 66 [(AV.fz (FV.sl 1 es2)), (AV.fz (FV.int .i64 (IntKind.wrap .i64 (n4 + 1))))])])) ∧ (((n5 == 110) = false) → ((((n5 == 114) = true) → (R (TV.one (AV.fz (FV.int .i64 13))) [(Ob.g 66 [(AV.fz (FV.sl 1 es2)), (AV.fz (FV.int .i64 (IntKind.wrap .i64 (n4 + 1))))])])) ∧ (((n5 == 114) = false) → ((((n5 == 116) = true) → (R (TV.one (AV.fz (FV.int .i64 9))) [(Ob.g 66 [(AV.fz (FV.sl 1 es2)), (AV.fz (FV.int .i64 (IntKind.wrap .i64 (n4 + 1))))])])) ∧ (((n5 == 116) = false) → ((((n5 == 92) = true) → (R (TV.one (AV.fz (FV.int .i64 n5))) [(Ob.g 66 [(AV.fz (FV.sl 1 es2)), (AV.fz (FV.int .i64 (IntKind.wrap .i64 (n4 + 1))))])])) ∧ (((n5 == 92) = false) → ((((n5 == 34) = true) → (R (TV.one (AV.fz (FV.int .i64 n5))) [(Ob.g 66 [(AV.fz (FV.sl 1 es2)), (AV.fz (FV.int .i64 (IntKind.wrap .i64 (n4 + 1))))])])) ∧ (((n5 == 34) = false) → ((((n5 == 120) = true) → (∃ es3 : List (List FV), (∃ n6 : Int, (∃ n7 : Int, ((Fn Tryz.prog 153 [(TV.one (AV.ptr 0 0 0 66))] [(Ob.g 66 [(AV.fz (FV.sl 1 es2)), (AV.fz (FV.int .i64 (IntKind.wrap .i64 (n4 + 1))))])] (TV.one (AV.fz (FV.int .i64 n7))) [(Ob.g 66 [(AV.fz (FV.sl 1 es3)), (AV.fz (FV.int .i64 n6))])]) ∧ (R (TV.one (AV.fz (FV.int .i64 n7))) [(Ob.g 66 [(AV.fz (FV.sl 1 es3)), (AV.fz (FV.int .i64 n6))])])))))) ∧ (((n5 == 120) = false) → (R (TV.one (AV.fz (FV.int .i64 (-1)))) [(Ob.g 66 [(AV.fz (FV.sl 1 es2)), (AV.fz (FV.int .i64 (IntKind.wrap .i64 (n4 + 1))))])])))))))))))))))))
theorem token_scanner_escapeO_fn (tx : List (List FV)) (p : Int) {r : TV} {h : List Ob} (H : token_scanner_escapeO_H (fun r' h' => r' = r ∧ Wk h' h) tx p) : Fn Tryz.prog 130 [(TV.one (AV.ptr 0 0 0 66))] [(Ob.g 66 [(AV.fz (FV.sl 1 tx)), (AV.fz (FV.int .i64 p))])] r h :=
  Fn.by_trW (M := (modeOf [] [(76, [(Sig.mk 1 [(false, [(AT.k (CK.int .i64))])] [(OT.g 66 [(AT.k (CK.sl 1)), (AT.k (CK.int .i64))])] 0)]), (153, [(Sig.mk 1 [(false, [(AT.k (CK.int .i64))])] [(OT.g 66 [(AT.k (CK.sl 1)), (AT.k (CK.int .i64))])] 0)])])) (lv := token_scanner_escapeO_lv) (own := (some 1)) (F := Tryz.f130) (by kernel_rfl) (by kernel_rfl) (by first | decide | simp) (fun _ _ h => h) (by kernel_rfl) H
def token_scanner_strO_lv : List Nat → Keep := lvOf [([0, 0, 1, 1], ⟨17, 0, [], false, false⟩)]
def token_scanner_strO_S0 (o : List (List FV)) (o1 : Int) (o2 : List (List FV)) : St := (St.mk [(TV.one (AV.ptr 0 0 0 66)), TV.und, TV.und, TV.und, (TV.one (AV.ofl 1 1)), TV.und, TV.und, TV.und, TV.und, TV.und, TV.und, TV.und, TV.und, TV.und, TV.und, TV.und, TV.und, TV.und, TV.und, TV.und, TV.und, TV.und, TV.und, TV.und, TV.und, TV.und, TV.und, TV.und, TV.und, TV.und, TV.und, TV.und, TV.und, TV.und, TV.und, TV.und, TV.und, TV.und, TV.und, TV.und, TV.und, TV.und] [(Ob.g 66 [(AV.fz (FV.sl 1 o)), (AV.fz (FV.int .i64 o1))]), (Ob.f 0 1 o2)])
def token_scanner_strO_L0 (R : TV → List Ob → Prop) (o : List (List FV)) (o1 : Int) (o2 : List (List FV)) : Prop := LoopAt Tryz.prog (modeOf [] [(36, [(Sig.mk 1 [(false, [(AT.k CK.bool)])] [(OT.g 66 [(AT.k (CK.sl 1)), (AT.k (CK.int .i64))])] 0)]), (76, [(Sig.mk 1 [(false, [(AT.k (CK.int .i64))])] [(OT.g 66 [(AT.k (CK.sl 1)), (AT.k (CK.int .i64))])] 0)]), (130, [(Sig.mk 1 [(false, [(AT.k (CK.int .i64))])] [(OT.g 66 [(AT.k (CK.sl 1)), (AT.k (CK.int .i64))])] 0)])]) token_scanner_strO_lv Tryz.f105 (some 1) R [1, 1, 0, 0] (token_scanner_strO_S0 o o1 o2)
def token_scanner_strO_R0 (R : TV → List Ob → Prop) (o : List (List FV)) (o1 : Int) (o2 : List (List FV)) : Prop :=
  (∃ es8 : List (List FV), (∃ n15 : Int, (∃ b2 : Bool, ((Fn Tryz.prog 36 [(TV.one (AV.ptr 0 0 0 66)), (TV.one (AV.fz (FV.int .i64 1)))] [(Ob.g 66 [(AV.fz (FV.sl 1 o)), (AV.fz (FV.int .i64 o1))])] (TV.one (AV.fz (FV.bool b2))) [(Ob.g 66 [(AV.fz (FV.sl 1 es8)), (AV.fz (FV.int .i64 n15))])]) ∧ (((b2 = true) → (∃ es9 : List (List FV), (∃ n16 : Int, (∃ n17 : Int, ((Fn Tryz.prog 76 [(TV.one (AV.ptr 0 0 0 66)), (TV.one (AV.fz (FV.int .i64 0)))] [(Ob.g 66 [(AV.fz (FV.sl 1 es8)), (AV.fz (FV.int .i64 n15))])] (TV.one (AV.fz (FV.int .i64 n17))) [(Ob.g 66 [(AV.fz (FV.sl 1 es9)), (AV.fz (FV.int .i64 n16))])]) ∧ ((((n17 == 34) = true) → (∃ es10 : List (List FV), (∃ n18 : Int, ((Fn Tryz.prog 129 [(TV.one (AV.fz (FV.sl 1 o2)))] [] (TV.tup [(false, [(AV.fz (FV.sl 1 es10))]), (false, [(AV.fz (FV.int .i64 n18))])]) []) ∧ (∃ ns2 : List Int, ((es10 = (List.map (fun n19 => [(FV.int .u8 n19)]) ns2)) ∧ (R (TV.tup [(false, [(AV.fz (FV.str (bytesOf ns2)))]), (false, [(AV.fz (FV.bool (decide ((((List.length o2) : Nat) : Int) ≤ 4096))))])]) [(Ob.g 66 [(AV.fz (FV.sl 1 es9)), (AV.fz (FV.int .i64 (IntKind.wrap .i64 (n16 + 1))))])]))))))) ∧ (((n17 == 34) = false) → ((((n17 == 92) = true) → (∃ es11 : List (List FV), (∃ n20 : Int, (∃ n21 : Int, ((Fn Tryz.prog 130 [(TV.one (AV.ptr 0 0 0 66))] [(Ob.g 66 [(AV.fz (FV.sl 1 es9)), (AV.fz (FV.int .i64 (IntKind.wrap .i64 (n16 + 1))))])] (TV.one (AV.fz (FV.int .i64 n21))) [(Ob.g 66 [(AV.fz (FV.sl 1 es11)), (AV.fz (FV.int .i64 n20))])]) ∧ ((((decide (n21 < 0)) = true) → (R (TV.tup [(false, [(AV.fz (FV.str (ByteArray.mk #[])))]), (false, [(AV.fz (FV.bool false))])]) [(Ob.g 66 [(AV.fz (FV.sl 1 es11)), (AV.fz (FV.int .i64 n20))])])) ∧ (((decide (n21 < 0)) = false) → (((((List.length o2) + (List.length [[(FV.int .i64 n21)]])) * 8) ≤ 220000000000000) ∧ (token_scanner_strO_L0 R es11 n20 (o2 ++ [[(FV.int .i64 n21)]])))))))))) ∧ (((n17 == 92) = false) → (((((List.length o2) + (List.length [[(FV.int .i64 n17)]])) * 8) ≤ 220000000000000) ∧ (token_scanner_strO_L0 R es9 (IntKind.wrap .i64 (n16 + 1)) (o2 ++ [[(FV.int .i64 n17)]])))))))))))) ∧ ((b2 = false) → (R (TV.tup [(false, [(AV.fz (FV.str (ByteArray.mk #[])))]), (false, [(AV.fz (FV.bool false))])]) [(Ob.g 66 [(AV.fz (FV.sl 1 es8)), (AV.fz (FV.int .i64 n15))])])))))))
theorem token_scanner_strO_l0 {R : TV → List Ob → Prop} {o : List (List FV)} {o1 : Int} {o2 : List (List FV)} (h : token_scanner_strO_R0 R o o1 o2) : token_scanner_strO_L0 R o o1 o2 :=
  LoopAt.by_tr (by kernel_rfl) (by kernel_rfl) h
def token_scanner_strO_H (R : TV → List Ob → Prop) (tx : List (List FV)) (p : Int) : Prop :=
  (token_scanner_strO_L0 R tx p ([] : List (List FV)))
theorem token_scanner_strO_fn (tx : List (List FV)) (p : Int) {r : TV} {h : List Ob} (H : token_scanner_strO_H (fun r' h' => r' = r ∧ Wk h' h) tx p) : Fn Tryz.prog 105 [(TV.one (AV.ptr 0 0 0 66))] [(Ob.g 66 [(AV.fz (FV.sl 1 tx)), (AV.fz (FV.int .i64 p))])] r h :=
  Fn.by_trW (M := (modeOf [] [(36, [(Sig.mk 1 [(false, [(AT.k CK.bool)])] [(OT.g 66 [(AT.k (CK.sl 1)), (AT.k (CK.int .i64))])] 0)]), (76, [(Sig.mk 1 [(false, [(AT.k (CK.int .i64))])] [(OT.g 66 [(AT.k (CK.sl 1)), (AT.k (CK.int .i64))])] 0)]), (130, [(Sig.mk 1 [(false, [(AT.k (CK.int .i64))])] [(OT.g 66 [(AT.k (CK.sl 1)), (AT.k (CK.int .i64))])] 0)])])) (lv := token_scanner_strO_lv) (own := (some 1)) (F := Tryz.f105) (by kernel_rfl) (by kernel_rfl) (by first | decide | simp) (fun _ _ h => h) (by kernel_rfl) H
def token_scanner_charO_lv : List Nat → Keep := lvOf []
def token_scanner_charO_H (R : TV → List Ob → Prop) (tx : List (List FV)) (p : Int) : Prop :=
  (∃ es3 : List (List FV), (∃ n6 : Int, (∃ b2 : Bool, ((Fn Tryz.prog 36 [(TV.one (AV.ptr 0 0 0 66)), (TV.one (AV.fz (FV.int .i64 1)))] [(Ob.g 66 [(AV.fz (FV.sl 1 tx)), (AV.fz (FV.int .i64 p))])] (TV.one (AV.fz (FV.bool b2))) [(Ob.g 66 [(AV.fz (FV.sl 1 es3)), (AV.fz (FV.int .i64 n6))])]) ∧ ((((Bool.not b2) = true) → (R (TV.tup [(false, [(AV.fz (FV.str (ByteArray.mk #[])))]), (false, [(AV.fz (FV.bool false))])]) [(Ob.g 66 [(AV.fz (FV.sl 1 es3)), (AV.fz (FV.int .i64 n6))])])) ∧ (((Bool.not b2) = false) → (∃ es4 : List (List FV), (∃ n7 : Int, (∃ s1 : ByteArray, ((Fn Tryz.prog 107 [(TV.one (AV.ptr 0 0 0 66)), (TV.one (AV.fz (FV.int .i64 1)))] [(Ob.g 66 [(AV.fz (FV.sl 1 es3)), (AV.fz (FV.int .i64 n6))])] (TV.one (AV.fz (FV.str s1))) [(Ob.g 66 [(AV.fz (FV.sl 1 es4)), (AV.fz (FV.int .i64 n7))])]) ∧ (∃ n8 : Int, (∃ b3 : Bool, ((Fn Tryz.prog 131 [(TV.one (AV.fz (FV.str s1)))] [] (TV.tup [(false, [(AV.fz (FV.int .i64 n8))]), (false, [(AV.fz (FV.bool b3))])]) []) ∧ (∃ es5 : List (List FV), (∃ n9 : Int, ((Fn Tryz.prog 129 [(TV.one (AV.fz (FV.sl 1 [[(FV.int .i64 n8)]])))] [] (TV.tup [(false, [(AV.fz (FV.sl 1 es5))]), (false, [(AV.fz (FV.int .i64 n9))])]) []) ∧ (∃ ns1 : List Int, ((es5 = (List.map (fun n10 => [(FV.int .u8 n10)]) ns1)) ∧ (R (TV.tup [(false, [(AV.fz (FV.str (bytesOf ns1)))]), (false, [(AV.fz (FV.bool b3))])]) [(Ob.g 66 [(AV.fz (FV.sl 1 es4)), (AV.fz (FV.int .i64 n7))])])))))))))))))))))))
theorem token_scanner_charO_fn (tx : List (List FV)) (p : Int) {r : TV} {h : List Ob} (H : token_scanner_charO_H (fun r' h' => r' = r ∧ Wk h' h) tx p) : Fn Tryz.prog 106 [(TV.one (AV.ptr 0 0 0 66))] [(Ob.g 66 [(AV.fz (FV.sl 1 tx)), (AV.fz (FV.int .i64 p))])] r h :=
  Fn.by_trW (M := (modeOf [] [(36, [(Sig.mk 1 [(false, [(AT.k CK.bool)])] [(OT.g 66 [(AT.k (CK.sl 1)), (AT.k (CK.int .i64))])] 0)]), (107, [(Sig.mk 1 [(false, [(AT.k CK.str)])] [(OT.g 66 [(AT.k (CK.sl 1)), (AT.k (CK.int .i64))])] 0)])])) (lv := token_scanner_charO_lv) (own := (some 1)) (F := Tryz.f106) (by kernel_rfl) (by kernel_rfl) (by first | decide | simp) (fun _ _ h => h) (by kernel_rfl) H
def token_scanner_datumO_lv : List Nat → Keep := lvOf []
def token_scanner_datumO_H (R : TV → List Ob → Prop) (tx : List (List FV)) (p : Int) : Prop :=
  (∃ es7 : List (List FV), (∃ n7 : Int, (∃ b6 : Bool, ((Fn Tryz.prog 78 [(TV.one (AV.ptr 0 0 0 66)), (TV.one (AV.fz (FV.str (ByteArray.mk #[34]))))] [(Ob.g 66 [(AV.fz (FV.sl 1 tx)), (AV.fz (FV.int .i64 p))])] (TV.one (AV.fz (FV.bool b6))) [(Ob.g 66 [(AV.fz (FV.sl 1 es7)), (AV.fz (FV.int .i64 n7))])]) ∧ (((b6 = true) → (∃ es8 : List (List FV), (∃ n8 : Int, (∃ s4 : ByteArray, (∃ b7 : Bool, ((Fn Tryz.prog 105 [(TV.one (AV.ptr 0 0 0 66))] [(Ob.g 66 [(AV.fz (FV.sl 1 es7)), (AV.fz (FV.int .i64 (IntKind.wrap .i64 (n7 + 1))))])] (TV.tup [(false, [(AV.fz (FV.str s4))]), (false, [(AV.fz (FV.bool b7))])]) [(Ob.g 66 [(AV.fz (FV.sl 1 es8)), (AV.fz (FV.int .i64 n8))])]) ∧ (R (TV.tup [(true, [(AV.fz (FV.int .i64 5)), (AV.fz (FV.str s4)), (AV.fz (FV.bool false)), (AV.ofl 1 1), (AV.ofl 6 2), (AV.fz (FV.int .i64 0))]), (false, [(AV.fz (FV.bool b7))])]) [(Ob.g 66 [(AV.fz (FV.sl 1 es8)), (AV.fz (FV.int .i64 n8))]), (Ob.f 0 1 ([] : List (List FV))), (Ob.f 0 6 ([] : List (List FV)))]))))))) ∧ ((b6 = false) → (∃ es9 : List (List FV), (∃ n9 : Int, (∃ b8 : Bool, ((Fn Tryz.prog 78 [(TV.one (AV.ptr 0 0 0 66)), (TV.one (AV.fz (FV.str (ByteArray.mk #[35, 92]))))] [(Ob.g 66 [(AV.fz (FV.sl 1 es7)), (AV.fz (FV.int .i64 n7))])] (TV.one (AV.fz (FV.bool b8))) [(Ob.g 66 [(AV.fz (FV.sl 1 es9)), (AV.fz (FV.int .i64 n9))])]) ∧ (((b8 = true) → (∃ es10 : List (List FV), (∃ n10 : Int, (∃ s5 : ByteArray, (∃ b9 : Bool, ((Fn Tryz.prog 106 [(TV.one (AV.ptr 0 0 0 66))] [(Ob.g 66 [(AV.fz (FV.sl 1 es9)), (AV.fz (FV.int .i64 (IntKind.wrap .i64 (n9 + 2))))])] (TV.tup [(false, [(AV.fz (FV.str s5))]), (false, [(AV.fz (FV.bool b9))])]) [(Ob.g 66 [(AV.fz (FV.sl 1 es10)), (AV.fz (FV.int .i64 n10))])]) ∧ (R (TV.tup [(true, [(AV.fz (FV.int .i64 6)), (AV.fz (FV.str s5)), (AV.fz (FV.bool false)), (AV.ofl 1 1), (AV.ofl 6 2), (AV.fz (FV.int .i64 0))]), (false, [(AV.fz (FV.bool b9))])]) [(Ob.g 66 [(AV.fz (FV.sl 1 es10)), (AV.fz (FV.int .i64 n10))]), (Ob.f 0 1 ([] : List (List FV))), (Ob.f 0 6 ([] : List (List FV)))]))))))) ∧ ((b8 = false) → (∃ es11 : List (List FV), (∃ n11 : Int, (∃ s6 : ByteArray, ((Fn Tryz.prog 107 [(TV.one (AV.ptr 0 0 0 66)), (TV.one (AV.fz (FV.int .i64 0)))] [(Ob.g 66 [(AV.fz (FV.sl 1 es9)), (AV.fz (FV.int .i64 n9))])] (TV.one (AV.fz (FV.str s6))) [(Ob.g 66 [(AV.fz (FV.sl 1 es11)), (AV.fz (FV.int .i64 n11))])]) ∧ (∃ n12 : Int, (∃ s7 : ByteArray, (∃ b10 : Bool, (∃ es12 : List (List FV), (∃ es13 : List (List FV), (∃ n13 : Int, (∃ b11 : Bool, ((Fn Tryz.prog 15 [(TV.one (AV.fz (FV.str s6)))] [] (TV.tup [(true, [(AV.fz (FV.int .i64 n12)), (AV.fz (FV.str s7)), (AV.fz (FV.bool b10)), (AV.fz (FV.sl 1 es12)), (AV.fz (FV.sl 6 es13)), (AV.fz (FV.int .i64 n13))]), (false, [(AV.fz (FV.bool b11))])]) []) ∧ (R (TV.tup [(true, [(AV.fz (FV.int .i64 n12)), (AV.fz (FV.str s7)), (AV.fz (FV.bool b10)), (AV.fz (FV.sl 1 es12)), (AV.fz (FV.sl 6 es13)), (AV.fz (FV.int .i64 n13))]), (false, [(AV.fz (FV.bool b11))])]) [(Ob.g 66 [(AV.fz (FV.sl 1 es11)), (AV.fz (FV.int .i64 n11))])])))))))))))))))))))))))))
theorem token_scanner_datumO_fc (tx : List (List FV)) (p : Int) {r : TV} {h : List Ob} (H : token_scanner_datumO_H (fun r' h' => Cool 1 r' h' r h) tx p) : Fn Tryz.prog 79 [(TV.one (AV.ptr 0 0 0 66))] [(Ob.g 66 [(AV.fz (FV.sl 1 tx)), (AV.fz (FV.int .i64 p))])] r h :=
  Fn.by_trC (M := (modeOf [] [(78, [(Sig.mk 1 [(false, [(AT.k CK.bool)])] [(OT.g 66 [(AT.k (CK.sl 1)), (AT.k (CK.int .i64))])] 0)]), (107, [(Sig.mk 1 [(false, [(AT.k CK.str)])] [(OT.g 66 [(AT.k (CK.sl 1)), (AT.k (CK.int .i64))])] 0)]), (105, [(Sig.mk 1 [(false, [(AT.k CK.str)]), (false, [(AT.k CK.bool)])] [(OT.g 66 [(AT.k (CK.sl 1)), (AT.k (CK.int .i64))])] 0)]), (106, [(Sig.mk 1 [(false, [(AT.k CK.str)]), (false, [(AT.k CK.bool)])] [(OT.g 66 [(AT.k (CK.sl 1)), (AT.k (CK.int .i64))])] 0)])])) (lv := token_scanner_datumO_lv) (own := (some 1)) (F := Tryz.f79) (by kernel_rfl) (by kernel_rfl) (by first | decide | simp) (fun _ _ h => h) (by kernel_rfl) H
def token_Scan_1_lv : List Nat → Keep := lvOf []
def token_Scan_1_H (R : TV → List Ob → Prop) (c : Int) : Prop :=
  (∃ b1 : Bool, ((Fn Tryz.prog 33 [(TV.one (AV.fz (FV.int .i64 c)))] [] (TV.one (AV.fz (FV.bool b1))) []) ∧ (R (TV.one (AV.fz (FV.bool (Bool.not b1)))) [])))
theorem token_Scan_1_fn (c : Int) {r : TV} {h : List Ob} (H : token_Scan_1_H (fun r' h' => r' = r ∧ h' = h) c) : Fn Tryz.prog 32 [(TV.one (AV.fz (FV.int .i64 c)))] [] r h :=
  Fn.by_tr (M := (modeOf [] [])) (lv := token_Scan_1_lv) (own := none) (F := Tryz.f32) (by kernel_rfl) (by kernel_rfl) (by first | decide | simp) (fun _ _ h => h) (by kernel_rfl) H
end Go.Proofs.YtejefchehdifhaaGreatDoor.Ev
end
section
set_option linter.unusedVariables false
set_option maxRecDepth 100000
namespace Go.Proofs.YtejefchehdifhaaGreatDoor.Ev
open Go
def utf_Scalar_lv : List Nat → Keep := lvOf []
def utf_Scalar_H (R : TV → List Ob → Prop) (c : Int) : Prop :=
  ((((decide ((0 : Int) ≤ c)) = true) → ((((decide (c ≤ 1114111)) = true) → (∃ b1 : Bool, ((Fn Tryz.prog 75 [(TV.one (AV.fz (FV.int .i32 (IntKind.wrap .i32 c))))] [] (TV.one (AV.fz (FV.bool b1))) []) ∧ (R (TV.one (AV.fz (FV.bool b1))) [])))) ∧ (((decide (c ≤ 1114111)) = false) → (R (TV.one (AV.fz (FV.bool false))) [])))) ∧ (((decide ((0 : Int) ≤ c)) = false) → (R (TV.one (AV.fz (FV.bool false))) [])))
theorem utf_Scalar_fn (c : Int) {r : TV} {h : List Ob} (H : utf_Scalar_H (fun r' h' => r' = r ∧ h' = h) c) : Fn Tryz.prog 33 [(TV.one (AV.fz (FV.int .i64 c)))] [] r h :=
  Fn.by_tr (M := (modeOf [] [])) (lv := utf_Scalar_lv) (own := none) (F := Tryz.f33) (by kernel_rfl) (by kernel_rfl) (by first | decide | simp) (fun _ _ h => h) (by kernel_rfl) H
def utf_Named_lv : List Nat → Keep := lvOf [([0, 1, 0, 1], ⟨12289, 0, [], false, false⟩)]
def utf_Named_S0 (s : ByteArray) (i : Int) : St := (St.mk [(TV.one (AV.fz (FV.str s))), TV.und, TV.und, TV.und, TV.und, TV.und, TV.und, TV.und, TV.und, TV.und, TV.und, TV.und, (TV.agg [(AV.fz (FV.int .i64 32)), (AV.fz (FV.str (ByteArray.mk #[115, 112, 97, 99, 101]))), (AV.fz (FV.int .i64 10)), (AV.fz (FV.str (ByteArray.mk #[110, 101, 119, 108, 105, 110, 101]))), (AV.fz (FV.int .i64 9)), (AV.fz (FV.str (ByteArray.mk #[116, 97, 98]))), (AV.fz (FV.int .i64 13)), (AV.fz (FV.str (ByteArray.mk #[114, 101, 116, 117, 114, 110]))), (AV.fz (FV.int .i64 0)), (AV.fz (FV.str (ByteArray.mk #[110, 117, 108, 108]))), (AV.fz (FV.int .i64 127)), (AV.fz (FV.str (ByteArray.mk #[100, 101, 108, 101, 116, 101])))]), (TV.one (AV.fz (FV.int .i64 i))), TV.und, TV.und, TV.und, TV.und, TV.und, TV.und, TV.und, TV.und, TV.und, TV.und, TV.und, TV.und, TV.und, TV.und, TV.und, TV.und, TV.und, TV.und, TV.und, TV.und, TV.und, TV.und, TV.und, TV.und, TV.und, TV.und, TV.und, TV.und, TV.und, TV.und, TV.und, TV.und, TV.und, TV.und, TV.und, TV.und, TV.und, TV.und, TV.und, TV.und, TV.und, TV.und, TV.und, TV.und, TV.und, TV.und, TV.und, TV.und, TV.und, TV.und, TV.und, TV.und, TV.und, TV.und, TV.und, TV.und, TV.und, TV.und, TV.und, TV.und, TV.und, TV.und, TV.und, TV.und] [])
def utf_Named_L0 (R : TV → List Ob → Prop) (s : ByteArray) (i : Int) : Prop := LoopAt Tryz.prog (modeOf [] []) utf_Named_lv Tryz.f131 none R [1, 0, 1, 0] (utf_Named_S0 s i)
def utf_Named_R0 (R : TV → List Ob → Prop) (s : ByteArray) (i : Int) : Prop :=
  ((((decide (i < 6)) = true) → ((((0 : Int) ≤ i) ∧ (i < 6)) ∧ (∃ n12 : Int, (∃ s15 : ByteArray, ((cutT [(AV.fz (FV.int .i64 32)), (AV.fz (FV.str (ByteArray.mk #[115, 112, 97, 99, 101]))), (AV.fz (FV.int .i64 10)), (AV.fz (FV.str (ByteArray.mk #[110, 101, 119, 108, 105, 110, 101]))), (AV.fz (FV.int .i64 9)), (AV.fz (FV.str (ByteArray.mk #[116, 97, 98]))), (AV.fz (FV.int .i64 13)), (AV.fz (FV.str (ByteArray.mk #[114, 101, 116, 117, 114, 110]))), (AV.fz (FV.int .i64 0)), (AV.fz (FV.str (ByteArray.mk #[110, 117, 108, 108]))), (AV.fz (FV.int .i64 127)), (AV.fz (FV.str (ByteArray.mk #[100, 101, 108, 101, 116, 101])))] ((Int.toNat i) * 2) 2 [(FV.int .i64 n12), (FV.str s15)]) ∧ (((((ByteArray.toList s15) == (ByteArray.toList s)) = true) → (R (TV.tup [(false, [(AV.fz (FV.int .i64 n12))]), (false, [(AV.fz (FV.bool true))])]) [])) ∧ ((((ByteArray.toList s15) == (ByteArray.toList s)) = false) → (utf_Named_L0 R s (IntKind.wrap .i64 (i + 1)))))))))) ∧ (((decide (i < 6)) = false) → (∃ n13 : Int, (∃ n14 : Int, ((Fn Tryz.prog 64 [(TV.one (AV.fz (FV.str s)))] [] (TV.tup [(false, [(AV.fz (FV.int .i32 n13))]), (false, [(AV.fz (FV.int .i64 n14))])]) []) ∧ ((((n14 == (((ByteArray.size s) : Nat) : Int)) = true) → ((((decide ((0 : Int) < n14)) = true) → ((((n13 != 65533) = true) → (R (TV.tup [(false, [(AV.fz (FV.int .i64 (IntKind.wrap .i64 n13)))]), (false, [(AV.fz (FV.bool true))])]) [])) ∧ (((n13 != 65533) = false) → ((((decide ((1 : Int) < n14)) = true) → (R (TV.tup [(false, [(AV.fz (FV.int .i64 (IntKind.wrap .i64 n13)))]), (false, [(AV.fz (FV.bool true))])]) [])) ∧ (((decide ((1 : Int) < n14)) = false) → (∃ s16 : ByteArray, (∃ b18 : Bool, ((Fn Tryz.prog 154 [(TV.one (AV.fz (FV.str s))), (TV.one (AV.fz (FV.str (ByteArray.mk #[120]))))] [] (TV.tup [(false, [(AV.fz (FV.str s16))]), (false, [(AV.fz (FV.bool b18))])]) []) ∧ ((((Bool.not b18) = true) → (R (TV.tup [(false, [(AV.fz (FV.int .i64 0))]), (false, [(AV.fz (FV.bool false))])]) [])) ∧ (((Bool.not b18) = false) → ((((decide ((6 : Int) < (((ByteArray.size s16) : Nat) : Int))) = true) → (R (TV.tup [(false, [(AV.fz (FV.int .i64 0))]), (false, [(AV.fz (FV.bool false))])]) [])) ∧ (((decide ((6 : Int) < (((ByteArray.size s16) : Nat) : Int))) = false) → (∃ s17 : ByteArray, ((Fn Tryz.prog 83 [(TV.one (AV.fz (FV.str s16))), (TV.one (AV.fz (FV.str (ByteArray.mk #[48, 49, 50, 51, 52, 53, 54, 55, 56, 57, 97, 98, 99, 100, 101, 102, 65, 66, 67, 68, 69, 70]))))] [] (TV.one (AV.fz (FV.str s17))) []) ∧ ((((Bool.not ((ByteArray.toList s17) == (ByteArray.toList (ByteArray.mk #[])))) = true) → (R (TV.tup [(false, [(AV.fz (FV.int .i64 0))]), (false, [(AV.fz (FV.bool false))])]) [])) ∧ (((Bool.not ((ByteArray.toList s17) == (ByteArray.toList (ByteArray.mk #[])))) = false) → (∃ n15 : Int, (∃ b19 : Bool, ((Fn Tryz.prog 155 [(TV.one (AV.fz (FV.str s16))), (TV.one (AV.fz (FV.int .i64 16))), (TV.one (AV.fz (FV.int .i64 32)))] [] (TV.tup [(false, [(AV.fz (FV.int .u64 n15))]), (false, [(AV.fz (FV.ifc b19))])]) []) ∧ ((((Bool.not (Bool.not b19)) = true) → (R (TV.tup [(false, [(AV.fz (FV.int .i64 0))]), (false, [(AV.fz (FV.bool false))])]) [])) ∧ (((Bool.not (Bool.not b19)) = false) → (∃ b20 : Bool, ((Fn Tryz.prog 33 [(TV.one (AV.fz (FV.int .i64 (IntKind.wrap .i64 n15))))] [] (TV.one (AV.fz (FV.bool b20))) []) ∧ ((((Bool.not b20) = true) → (R (TV.tup [(false, [(AV.fz (FV.int .i64 0))]), (false, [(AV.fz (FV.bool false))])]) [])) ∧ (((Bool.not b20) = false) → (R (TV.tup [(false, [(AV.fz (FV.int .i64 (IntKind.wrap .i64 n15)))]), (false, [(AV.fz (FV.bool true))])]) [])))))))))))))))))))))))))) ∧ (((decide ((0 : Int) < n14)) = false) → (∃ s18 : ByteArray, (∃ b21 : Bool, ((Fn Tryz.prog 154 [(TV.one (AV.fz (FV.str s))), (TV.one (AV.fz (FV.str (ByteArray.mk #[120]))))] [] (TV.tup [(false, [(AV.fz (FV.str s18))]), (false, [(AV.fz (FV.bool b21))])]) []) ∧ ((((Bool.not b21) = true) → (R (TV.tup [(false, [(AV.fz (FV.int .i64 0))]), (false, [(AV.fz (FV.bool false))])]) [])) ∧ (((Bool.not b21) = false) → ((((decide ((6 : Int) < (((ByteArray.size s18) : Nat) : Int))) = true) → (R (TV.tup [(false, [(AV.fz (FV.int .i64 0))]), (false, [(AV.fz (FV.bool false))])]) [])) ∧ (((decide ((6 : Int) < (((ByteArray.size s18) : Nat) : Int))) = false) → (∃ s19 : ByteArray, ((Fn Tryz.prog 83 [(TV.one (AV.fz (FV.str s18))), (TV.one (AV.fz (FV.str (ByteArray.mk #[48, 49, 50, 51, 52, 53, 54, 55, 56, 57, 97, 98, 99, 100, 101, 102, 65, 66, 67, 68, 69, 70]))))] [] (TV.one (AV.fz (FV.str s19))) []) ∧ ((((Bool.not ((ByteArray.toList s19) == (ByteArray.toList (ByteArray.mk #[])))) = true) → (R (TV.tup [(false, [(AV.fz (FV.int .i64 0))]), (false, [(AV.fz (FV.bool false))])]) [])) ∧ (((Bool.not ((ByteArray.toList s19) == (ByteArray.toList (ByteArray.mk #[])))) = false) → (∃ n16 : Int, (∃ b22 : Bool, ((Fn Tryz.prog 155 [(TV.one (AV.fz (FV.str s18))), (TV.one (AV.fz (FV.int .i64 16))), (TV.one (AV.fz (FV.int .i64 32)))] [] (TV.tup [(false, [(AV.fz (FV.int .u64 n16))]), (false, [(AV.fz (FV.ifc b22))])]) []) ∧ ((((Bool.not (Bool.not b22)) = true) → (R (TV.tup [(false, [(AV.fz (FV.int .i64 0))]), (false, [(AV.fz (FV.bool false))])]) [])) ∧ (((Bool.not (Bool.not b22)) = false) → (∃ b23 : Bool, ((Fn Tryz.prog 33 [(TV.one (AV.fz (FV.int .i64 (IntKind.wrap .i64 n16))))] [] (TV.one (AV.fz (FV.bool b23))) []) ∧ ((((Bool.not b23) = true) → (R (TV.tup [(false, [(AV.fz (FV.int .i64 0))]), (false, [(AV.fz (FV.bool false))])]) [])) ∧ (((Bool.not b23) = false) → (R (TV.tup [(false, [(AV.fz (FV.int .i64 (IntKind.wrap .i64 n16)))]), (false, [(AV.fz (FV.bool true))])]) [])))))))))))))))))))))))) ∧ (((n14 == (((ByteArray.size s) : Nat) : Int)) = false) → (∃ s20 : ByteArray, (∃ b24 : Bool, ((Fn Tryz.prog 154 [(TV.one (AV.fz (FV.str s))), (TV.one (AV.fz (FV.str (ByteArray.mk #[120]))))] [] (TV.tup [(false, [(AV.fz (FV.str s20))]), (false, [(AV.fz (FV.bool b24))])]) []) ∧ ((((Bool.not b24) = true) → (R (TV.tup [(false, [(AV.fz (FV.int .i64 0))]), (false, [(AV.fz (FV.bool false))])]) [])) ∧ (((Bool.not b24) = false) → ((((decide ((6 : Int) < (((ByteArray.size s20) : Nat) : Int))) = true) → (R (TV.tup [(false, [(AV.fz (FV.int .i64 0))]), (false, [(AV.fz (FV.bool false))])]) [])) ∧ (((decide ((6 : Int) < (((ByteArray.size s20) : Nat) : Int))) = false) → (∃ s21 : ByteArray, ((Fn Tryz.prog 83 [(TV.one (AV.fz (FV.str s20))), (TV.one (AV.fz (FV.str (ByteArray.mk #[48, 49, 50, 51, 52, 53, 54, 55, 56, 57, 97, 98, 99, 100, 101, 102, 65, 66, 67, 68, 69, 70]))))] [] (TV.one (AV.fz (FV.str s21))) []) ∧ ((((Bool.not ((ByteArray.toList s21) == (ByteArray.toList (ByteArray.mk #[])))) = true) → (R (TV.tup [(false, [(AV.fz (FV.int .i64 0))]), (false, [(AV.fz (FV.bool false))])]) [])) ∧ (((Bool.not ((ByteArray.toList s21) == (ByteArray.toList (ByteArray.mk #[])))) = false) → (∃ n17 : Int, (∃ b25 : Bool, ((Fn Tryz.prog 155 [(TV.one (AV.fz (FV.str s20))), (TV.one (AV.fz (FV.int .i64 16))), (TV.one (AV.fz (FV.int .i64 32)))] [] (TV.tup [(false, [(AV.fz (FV.int .u64 n17))]), (false, [(AV.fz (FV.ifc b25))])]) []) ∧ ((((Bool.not (Bool.not b25)) = true) → (R (TV.tup [(false, [(AV.fz (FV.int .i64 0))]), (false, [(AV.fz (FV.bool false))])]) [])) ∧ (((Bool.not (Bool.not b25)) = false) → (∃ b26 : Bool, ((Fn Tryz.prog 33 [(TV.one (AV.fz (FV.int .i64 (IntKind.wrap .i64 n17))))] [] (TV.one (AV.fz (FV.bool b26))) []) ∧ ((((Bool.not b26) = true) → (R (TV.tup [(false, [(AV.fz (FV.int .i64 0))]), (false, [(AV.fz (FV.bool false))])]) [])) ∧ (((Bool.not b26) = false) → (R (TV.tup [(false, [(AV.fz (FV.int .i64 (IntKind.wrap .i64 n17)))]), (false, [(AV.fz (FV.bool true))])]) []))))))))))))))))))))))))))))
theorem utf_Named_l0 {R : TV → List Ob → Prop} {s : ByteArray} {i : Int} (h : utf_Named_R0 R s i) : utf_Named_L0 R s i :=
  LoopAt.by_tr (by kernel_rfl) (by kernel_rfl) h
def utf_Named_H (R : TV → List Ob → Prop) (s : ByteArray) : Prop :=
  (utf_Named_L0 R s 0)
theorem utf_Named_fn (s : ByteArray) {r : TV} {h : List Ob} (H : utf_Named_H (fun r' h' => r' = r ∧ h' = h) s) : Fn Tryz.prog 131 [(TV.one (AV.fz (FV.str s)))] [] r h :=
  Fn.by_tr (M := (modeOf [] [])) (lv := utf_Named_lv) (own := none) (F := Tryz.f131) (by kernel_rfl) (by kernel_rfl) (by first | decide | simp) (fun _ _ h => h) (by kernel_rfl) H
def utf_Encode_lv : List Nat → Keep := lvOf [([0, 1, 0, 1, 1], ⟨912, 0, [], false, false⟩)]
def utf_Encode_S0 (list : List (List FV)) (i : Int) (o : List (List FV)) : St := (St.mk [TV.und, TV.und, TV.und, TV.und, (TV.one (AV.ofl 1 0)), TV.und, TV.und, (TV.one (AV.fz (FV.sl 1 list))), (TV.one (AV.fz (FV.int .i64 (((List.length list) : Nat) : Int)))), (TV.one (AV.fz (FV.int .i64 i))), TV.und, TV.und, TV.und, TV.und, TV.und, TV.und, TV.und, TV.und, TV.und, TV.und, TV.und, TV.und] [(Ob.f 0 1 o)])
def utf_Encode_L0 (R : TV → List Ob → Prop) (list : List (List FV)) (i : Int) (o : List (List FV)) : Prop := LoopAt Tryz.prog (modeOf [] [(152, [(Sig.mk 0 [(false, [(AT.a (AV.ofl 1 0))])] [(OT.f 0 1)] 1), (Sig.mk 1 [(false, [(AT.a (AV.ofl 1 1))])] [OT.no, (OT.f 0 1)] 1)])]) utf_Encode_lv Tryz.f129 none R [1, 1, 0, 1, 0] (utf_Encode_S0 list i o)
def utf_Encode_R0 (R : TV → List Ob → Prop) (list : List (List FV)) (i : Int) (o : List (List FV)) : Prop :=
  ((((decide (i < (((List.length list) : Nat) : Int))) = true) → (((0 : Int) ≤ i) ∧ (∃ n2 : Int, (((list)[(Int.toNat i)]? = (some [(FV.int .i64 n2)])) ∧ (∃ b2 : Bool, ((Fn Tryz.prog 33 [(TV.one (AV.fz (FV.int .i64 n2)))] [] (TV.one (AV.fz (FV.bool b2))) []) ∧ ((((Bool.not b2) = true) → (R (TV.tup [(false, [(AV.fz (FV.sl 1 ([] : List (List FV))))]), (false, [(AV.fz (FV.int .i64 1))])]) [])) ∧ (((Bool.not b2) = false) → (∃ es2 : List (List FV), ((Fn Tryz.prog 152 [(TV.one (AV.ofl 1 0)), (TV.one (AV.fz (FV.int .i32 (IntKind.wrap .i32 n2))))] [(Ob.f 0 1 o)] (TV.one (AV.ofl 1 1)) [Ob.no, (Ob.f 0 1 es2)]) ∧ (utf_Encode_L0 R list (IntKind.wrap .i64 (i + 1)) es2))))))))))) ∧ (((decide (i < (((List.length list) : Nat) : Int))) = false) → (R (TV.tup [(false, [(AV.fz (FV.sl 1 o))]), (false, [(AV.fz (FV.int .i64 0))])]) [])))
theorem utf_Encode_l0 {R : TV → List Ob → Prop} {list : List (List FV)} {i : Int} {o : List (List FV)} (h : utf_Encode_R0 R list i o) : utf_Encode_L0 R list i o :=
  LoopAt.by_tr (by kernel_rfl) (by kernel_rfl) h
def utf_Encode_H (R : TV → List Ob → Prop) (list : List (List FV)) : Prop :=
  (utf_Encode_L0 R list 0 ([] : List (List FV)))
theorem utf_Encode_fn (list : List (List FV)) {r : TV} {h : List Ob} (H : utf_Encode_H (fun r' h' => r' = r ∧ h' = h) list) : Fn Tryz.prog 129 [(TV.one (AV.fz (FV.sl 1 list)))] [] r h :=
  Fn.by_tr (M := (modeOf [] [(152, [(Sig.mk 0 [(false, [(AT.a (AV.ofl 1 0))])] [(OT.f 0 1)] 1), (Sig.mk 1 [(false, [(AT.a (AV.ofl 1 1))])] [OT.no, (OT.f 0 1)] 1)])])) (lv := utf_Encode_lv) (own := none) (F := Tryz.f129) (by kernel_rfl) (by kernel_rfl) (by first | decide | simp) (fun _ _ h => h) (by kernel_rfl) H
end Go.Proofs.YtejefchehdifhaaGreatDoor.Ev
end
section
set_option linter.unusedVariables false
set_option linter.unusedSimpArgs false
namespace Go.Proofs.YtejefchehdifhaaGreatDoor.Ev
open Go
theorem ValidRune_ok (c : Int) : Fn Tryz.prog 75 [fzI .i32 c] [] (fzB (scalB c)) [] := by
  refine unicode_utf8_ValidRune_fn _ ?_
  obtain ⟨R, hR, hRe⟩ := exR (fzB (scalB c)); rw [hRe]; clear hRe
  have fin : ∀ b, b = scalB c → R (fzB b) [] := fun b h => by rw [h]; exact hR
  unfold unicode_utf8_ValidRune_H
  simp only [dec_t, dec_f]
  unfold scalB at fin
  refine ⟨fun h0 => ⟨fun h1 => fin _ ?_, fun h1 => ⟨fun h2 => ⟨fun h3 => fin _ ?_, fun h3 => fin _ ?_⟩, fun h2 => fin _ ?_⟩⟩, fun h0 => ⟨fun h2 => ⟨fun h3 => fin _ ?_, fun h3 => fin _ ?_⟩, fun h2 => fin _ ?_⟩⟩
  · simp; omega
  · simp; omega
  · simp; omega
  · simp; omega
  · simp; omega
  · simp; omega
  · simp; omega
theorem uScalar_ok (c : Int) : Fn Tryz.prog 33 [fzI .i64 c] [] (fzB (scalB c)) [] := by
  refine utf_Scalar_fn _ ?_
  obtain ⟨R, hR, hRe⟩ := exR (fzB (scalB c)); rw [hRe]; clear hRe
  unfold utf_Scalar_H
  simp only [dec_t, dec_f]
  refine ⟨fun h0 => ⟨fun h1 => ⟨scalB c, ?_, hR⟩, fun h1 => ?_⟩, fun h0 => ?_⟩
  · rw [w32_in (by omega) (by omega)]; exact ValidRune_ok c
  · have : scalB c = false := by unfold scalB; simp; omega
    rw [this] at hR; exact hR
  · have : scalB c = false := by unfold scalB; simp; omega
    rw [this] at hR; exact hR
theorem scanFn1_ok (c : Int) : Fn Tryz.prog 32 [fzI .i64 c] [] (fzB (!(scalB c))) [] := by
  refine token_Scan_1_fn _ ?_
  unfold token_Scan_1_H
  exact ⟨scalB c, uScalar_ok c, rfl, rfl⟩
theorem u8_mod (y : Int) : IntKind.wrap .u8 y = y % 256 := rfl
theorem cont_bits (y : Int) (h : 0 ≤ y) : IntKind.wrap .u8 (((BitVec.toNat ((BitVec.ofInt 8 128) ||| (BitVec.ofInt 8 (IntKind.wrap .u8 (((BitVec.toNat ((BitVec.ofInt 8 (IntKind.wrap .u8 y)) &&& (BitVec.ofInt 8 63))) : Nat) : Int))))) : Nat) : Int) = 128 + y % 64 := by
  have key : ∀ n : Fin 256, IntKind.wrap .u8 (((BitVec.toNat ((BitVec.ofInt 8 128) ||| (BitVec.ofInt 8 (IntKind.wrap .u8 (((BitVec.toNat ((BitVec.ofInt 8 (n.val : Int)) &&& (BitVec.ofInt 8 63))) : Nat) : Int))))) : Nat) : Int) = 128 + (n.val : Int) % 64 := by decide +kernel
  have h2 := key ⟨(y % 256).toNat, by omega⟩
  have h3 : (((y % 256).toNat : Nat) : Int) = y % 256 := by omega
  simp only [h3] at h2
  rw [u8_mod y, h2]
  omega
theorem lead192 (y : Int) (h0 : 0 ≤ y) (h1 : y < 32) : IntKind.wrap .u8 (((BitVec.toNat ((BitVec.ofInt 8 192) ||| (BitVec.ofInt 8 (IntKind.wrap .u8 y)))) : Nat) : Int) = 192 + y := by
  have k1 : ∀ n : Fin 32, IntKind.wrap .u8 (((BitVec.toNat ((BitVec.ofInt 8 192) ||| (BitVec.ofInt 8 (IntKind.wrap .u8 (n.val : Int))))) : Nat) : Int) = 192 + (n.val : Int) := by decide +kernel
  have h3 : ((y.toNat : Nat) : Int) = y := by omega
  have := k1 ⟨y.toNat, by omega⟩
  simp only [h3] at this; exact this
theorem lead224 (y : Int) (h0 : 0 ≤ y) (h1 : y < 16) : IntKind.wrap .u8 (((BitVec.toNat ((BitVec.ofInt 8 224) ||| (BitVec.ofInt 8 (IntKind.wrap .u8 y)))) : Nat) : Int) = 224 + y := by
  have k1 : ∀ n : Fin 16, IntKind.wrap .u8 (((BitVec.toNat ((BitVec.ofInt 8 224) ||| (BitVec.ofInt 8 (IntKind.wrap .u8 (n.val : Int))))) : Nat) : Int) = 224 + (n.val : Int) := by decide +kernel
  have h3 : ((y.toNat : Nat) : Int) = y := by omega
  have := k1 ⟨y.toNat, by omega⟩
  simp only [h3] at this; exact this
theorem lead240 (y : Int) (h0 : 0 ≤ y) (h1 : y < 8) : IntKind.wrap .u8 (((BitVec.toNat ((BitVec.ofInt 8 240) ||| (BitVec.ofInt 8 (IntKind.wrap .u8 y)))) : Nat) : Int) = 240 + y := by
  have k1 : ∀ n : Fin 8, IntKind.wrap .u8 (((BitVec.toNat ((BitVec.ofInt 8 240) ||| (BitVec.ofInt 8 (IntKind.wrap .u8 (n.val : Int))))) : Nat) : Int) = 240 + (n.val : Int) := by decide +kernel
  have h3 : ((y.toNat : Nat) : Int) = y := by omega
  have := k1 ⟨y.toNat, by omega⟩
  simp only [h3] at this; exact this
theorem exW (v : TV) (h : List Ob) : ∃ R : TV → List Ob → Prop, (∀ h', Wk h' h → R v h') ∧ (fun r' h' => r' = v ∧ Wk h' h) = R := ⟨_, fun _ hw => ⟨rfl, hw⟩, rfl⟩
theorem scal_in {c : Int} (h : scalB c = true) : 0 ≤ c ∧ c ≤ 1114111 ∧ ¬ (55296 ≤ c ∧ c ≤ 57343) := by
  unfold scalB at h
  simp only [Bool.and_eq_true, decide_eq_true_eq, Bool.not_eq_true', Bool.and_eq_false_iff, decide_eq_false_iff_not] at h
  omega
theorem fd6 {c : Int} (h : 0 ≤ c) : Int.fdiv c (2 ^ (min (Int.toNat 6) 32)) = c / 64 := Int.fdiv_eq_ediv_of_nonneg c (by decide)
theorem fd12 {c : Int} (h : 0 ≤ c) : Int.fdiv c (2 ^ (min (Int.toNat 12) 32)) = c / 4096 := Int.fdiv_eq_ediv_of_nonneg c (by decide)
theorem fd18 {c : Int} (h : 0 ≤ c) : Int.fdiv c (2 ^ (min (Int.toNat 18) 32)) = c / 262144 := Int.fdiv_eq_ediv_of_nonneg c (by decide)
theorem utfB_two {c : Int} (h : 128 ≤ c) (h2 : c < 2048) : ints .u8 (utfB c) = [[FV.int .u8 (192 + c / 64)], [FV.int .u8 (128 + c % 64)]] := by
  unfold utfB; rw [if_neg (by omega), if_pos h2]; rfl
theorem utfB_three {c : Int} (h : 2048 ≤ c) (h2 : c < 65536) : ints .u8 (utfB c) = [[FV.int .u8 (224 + c / 4096)], [FV.int .u8 (128 + c / 64 % 64)], [FV.int .u8 (128 + c % 64)]] := by
  unfold utfB; rw [if_neg (by omega), if_neg (by omega), if_pos h2]; rfl
theorem utfB_four {c : Int} (h : 65536 ≤ c) : ints .u8 (utfB c) = [[FV.int .u8 (240 + c / 262144)], [FV.int .u8 (128 + c / 4096 % 64)], [FV.int .u8 (128 + c / 64 % 64)], [FV.int .u8 (128 + c % 64)]] := by
  unfold utfB; rw [if_neg (by omega), if_neg (by omega), if_neg (by omega)]; rfl
theorem appNA1 {c : Int} (h : scalB c = true) (hc : 128 ≤ c) (l : List Int) (hl : l.length ≤ 200000000000000) :
    Fn Tryz.prog 170 [.one (.ofl 1 0), fzI .i32 c] [.f 0 1 (ints .u8 l)] (.one (.ofl 1 1)) [.no, .f 0 1 (ints .u8 (l ++ utfB c))] := by
  obtain ⟨h0, h1, hs⟩ := scal_in h
  refine unicode_utf8_appendRuneNonASCII1_fn _ _ ?_
  obtain ⟨R, hR, hRe⟩ := exW (.one (.ofl 1 1)) [.no, .f 0 1 (ints .u8 (l ++ utfB c))]; rw [hRe]; clear hRe
  rw [← ints_app] at hR
  unfold unicode_utf8_appendRuneNonASCII1_H
  simp only [dec_t, dec_f, wu32 h0 (by omega : c ≤ 4294967295), fd6 h0, fd12 h0, fd18 h0, cont_bits c h0, cont_bits (c / 64) (by omega), cont_bits (c / 4096) (by omega), ints_len, List.length_cons, List.length_nil]
  refine ⟨fun a1 => ?_, fun a1 => ⟨fun a2 => ?_, fun a2 => ⟨fun a3 => ⟨fun a4 => ?_, fun a4 => ⟨fun a5 => ⟨fun a6 => ?_, fun a6 => absurd a6 (by omega)⟩, fun a5 => absurd a5 (by omega)⟩⟩, fun a3 => absurd a3 (by omega)⟩⟩⟩
  · rw [lead192 _ (by omega) (by omega), ← utfB_two hc (by omega)]
    exact ⟨by omega, by omega, hR _ (Wk.refl _)⟩
  · rw [lead224 _ (by omega) (by omega), ← utfB_three (by omega) (by omega)]
    exact ⟨by omega, by omega, by omega, hR _ (Wk.refl _)⟩
  · rw [lead224 _ (by omega) (by omega), ← utfB_three (by omega) (by omega)]
    exact ⟨by omega, by omega, by omega, hR _ (Wk.refl _)⟩
  · rw [lead240 _ (by omega) (by omega), ← utfB_four (by omega)]
    exact ⟨by omega, by omega, by omega, by omega, hR _ (Wk.refl _)⟩
theorem append1_ok {c : Int} (h : scalB c = true) (l : List Int) (hl : l.length ≤ 200000000000000) :
    Fn Tryz.prog 152 [.one (.ofl 1 0), fzI .i32 c] [.f 0 1 (ints .u8 l)] (.one (.ofl 1 1)) [.no, .f 0 1 (ints .u8 (l ++ utfB c))] := by
  obtain ⟨h0, h1, hs⟩ := scal_in h
  refine unicode_utf8_AppendRune1_fn _ _ ?_
  obtain ⟨R, hR, hRe⟩ := exW (.one (.ofl 1 1)) [.no, .f 0 1 (ints .u8 (l ++ utfB c))]; rw [hRe]; clear hRe
  unfold unicode_utf8_AppendRune1_H
  simp only [dec_t, dec_f, wu32 h0 (by omega : c ≤ 4294967295), ints_len, List.length_cons, List.length_nil]
  refine ⟨fun a1 => ⟨by omega, ?_⟩, fun a1 => ⟨_, appNA1 h (by omega) l hl, hR _ (Wk.refl _)⟩⟩
  rw [wu8 h0 (by omega), ints_snoc]
  have : utfB c = [c] := by unfold utfB; rw [if_pos (by omega)]
  rw [this] at hR
  exact hR _ (Wk.refl _)
def enc (l : List Int) : List Int := (l.map utfB).flatten
theorem enc_cons (c : Int) (l : List Int) : enc (c :: l) = utfB c ++ enc l := rfl
theorem enc_app (l m : List Int) : enc (l ++ m) = enc l ++ enc m := by simp [enc]
theorem utfB_le (c : Int) : (utfB c).length ≤ 4 := by
  have := utfB_len c
  split at this
  · omega
  · split at this
    · omega
    · split at this <;> omega
theorem enc_len (l : List Int) : (enc l).length ≤ 4 * l.length := by
  induction l with
  | nil => simp [enc]
  | cons c r ih =>
    rw [enc_cons]
    have := utfB_le c
    simp only [List.length_append, List.length_cons]
    omega
theorem utfB_bytes {c : Int} (h : scalB c = true) : Bytes (utfB c) := by
  obtain ⟨h0, h1, hs⟩ := scal_in h
  intro x hx
  unfold utfB at hx
  split at hx
  · simp at hx; omega
  · split at hx
    · simp at hx; omega
    · split at hx
      · simp at hx; omega
      · simp at hx; omega
def Scals (l : List Int) : Prop := ∀ c ∈ l, scalB c = true
theorem enc_bytes {l : List Int} (h : Scals l) : Bytes (enc l) := by
  induction l with
  | nil => intro x hx; cases hx
  | cons c r ih =>
    intro x hx
    rw [enc_cons] at hx
    rcases List.mem_append.1 hx with hx | hx
    · exact utfB_bytes (h c (by simp)) x hx
    · exact ih (fun y hy => h y (by simp [hy])) x hx
theorem encode_loop (l : List Int) (hs : Scals l) (hlen : l.length ≤ 50000000000) (R : TV → List Ob → Prop) (hR : R (.tup [(false, [.fz (.sl 1 (ints .u8 (enc l)))]), (false, [.fz (.int .i64 0)])]) []) :
    ∀ (m i : Nat), l.length - i = m → i ≤ l.length → utf_Encode_L0 R (ints .i64 l) i (ints .u8 (enc (l.take i))) := by
  intro m
  induction m with
  | zero =>
    intro i hi hle
    refine utf_Encode_l0 ?_
    unfold utf_Encode_R0
    simp only [dec_t, dec_f, ints_len]
    refine ⟨fun a => absurd a (by omega), fun _ => ?_⟩
    rw [show i = l.length by omega, List.take_length]
    exact hR
  | succ m ih =>
    intro i hi hle
    refine utf_Encode_l0 ?_
    unfold utf_Encode_R0
    simp only [dec_t, dec_f, ints_len, Int.toNat_natCast]
    refine ⟨fun _ => ⟨by omega, ?_⟩, fun a => absurd a (by omega)⟩
    have hlt : i < l.length := by omega
    have hc : scalB (rd l i) = true := hs _ (by rw [rd_at l i hlt]; exact List.getElem_mem hlt)
    obtain ⟨h0, h1, _⟩ := scal_in hc
    refine ⟨rd l i, ?_, true, ?_, ?_⟩
    · simp [ints, some_rd hlt]
    · have := uScalar_ok (rd l i); rw [hc] at this; exact this
    · simp only [Bool.not_true, Bool.false_eq_true, false_implies, true_and, forall_const]
      rw [w32_in (by omega) (by omega), w64 (by omega) (by omega)]
      have hel := enc_len (l.take i)
      have htl : (l.take i).length ≤ l.length := by simp; omega
      refine ⟨_, append1_ok hc (enc (l.take i)) (by omega), ?_⟩
      have := ih (i + 1) (by omega) (by omega)
      have ht : l.take (i + 1) = l.take i ++ [rd l i] := by rw [List.take_add_one, some_rd hlt]; rfl
      rw [ht, enc_app, show enc [rd l i] = utfB (rd l i) by simp [enc]] at this
      exact this
theorem uEncode_ok (l : List Int) (hs : Scals l) (hlen : l.length ≤ 50000000000) : Fn Tryz.prog 129 [fzS .i64 l] [] (.tup [(false, [.fz (.sl 1 (ints .u8 (enc l)))]), (false, [.fz (.int .i64 0)])]) [] := by
  refine utf_Encode_fn _ ?_
  obtain ⟨R, hR, hRe⟩ := exR (.tup [(false, [.fz (.sl 1 (ints .u8 (enc l)))]), (false, [.fz (.int .i64 0)])]); rw [hRe]; clear hRe
  unfold utf_Encode_H
  exact encode_loop l hs hlen R hR _ 0 rfl (Nat.zero_le _)
end Go.Proofs.YtejefchehdifhaaGreatDoor.Ev
end
section
set_option linter.unusedVariables false
set_option maxRecDepth 100000
namespace Go.Proofs.YtejefchehdifhaaGreatDoor.Ev
open Go
def ref02_Encode_lv : List Nat → Keep := lvOf [([0, 1, 0, 1, 1], ⟨49, 0, [], false, false⟩)]
def ref02_Encode_S0 (list : List (List FV)) (i : Int) (o : List (List FV)) : St := (St.mk [(TV.one (AV.fz (FV.sl 1 list))), TV.und, TV.und, TV.und, (TV.one (AV.ofl 1 0)), (TV.one (AV.fz (FV.int .i64 i))), TV.und, TV.und, TV.und, TV.und, TV.und, TV.und, TV.und, TV.und, TV.und, TV.und, TV.und, TV.und, TV.und, TV.und, TV.und, TV.und, TV.und, TV.und, TV.und, TV.und] [(Ob.f 0 1 o)])
def ref02_Encode_L0 (R : TV → List Ob → Prop) (list : List (List FV)) (i : Int) (o : List (List FV)) : Prop := LoopAt Tryz.prog (modeOf [] []) ref02_Encode_lv Tryz.f81 none R [1, 1, 0, 1, 0] (ref02_Encode_S0 list i o)
def ref02_Encode_R0 (R : TV → List Ob → Prop) (list : List (List FV)) (i : Int) (o : List (List FV)) : Prop :=
  ((((decide (i < (((List.length list) : Nat) : Int))) = true) → (((0 : Int) ≤ i) ∧ (∃ n4 : Int, (((list)[(Int.toNat i)]? = (some [(FV.int .i64 n4)])) ∧ (∃ b2 : Bool, ((Fn Tryz.prog 38 [(TV.one (AV.fz (FV.int .i64 n4)))] [] (TV.one (AV.fz (FV.bool b2))) []) ∧ ((((Bool.not b2) = true) → (R (TV.tup [(false, [(AV.fz (FV.sl 1 ([] : List (List FV))))]), (false, [(AV.fz (FV.int .i64 1))])]) [])) ∧ (((Bool.not b2) = false) → (((0 : Int) ≤ i) ∧ (∃ n5 : Int, (((list)[(Int.toNat i)]? = (some [(FV.int .i64 n5)])) ∧ (∃ es2 : List (List FV), ((Fn Tryz.prog 46 [(TV.one (AV.fz (FV.int .i64 n5)))] [] (TV.one (AV.fz (FV.sl 1 es2))) []) ∧ (((((List.length o) + (List.length es2)) * 1) ≤ 220000000000000) ∧ (ref02_Encode_L0 R list (IntKind.wrap .i64 (i + 1)) (o ++ es2)))))))))))))))) ∧ (((decide (i < (((List.length list) : Nat) : Int))) = false) → (R (TV.tup [(false, [(AV.fz (FV.sl 1 o))]), (false, [(AV.fz (FV.int .i64 0))])]) [])))
theorem ref02_Encode_l0 {R : TV → List Ob → Prop} {list : List (List FV)} {i : Int} {o : List (List FV)} (h : ref02_Encode_R0 R list i o) : ref02_Encode_L0 R list i o :=
  LoopAt.by_tr (by kernel_rfl) (by kernel_rfl) h
def ref02_Encode_H (R : TV → List Ob → Prop) (list : List (List FV)) : Prop :=
  (ref02_Encode_L0 R list 0 ([] : List (List FV)))
theorem ref02_Encode_fn (list : List (List FV)) {r : TV} {h : List Ob} (H : ref02_Encode_H (fun r' h' => r' = r ∧ h' = h) list) : Fn Tryz.prog 81 [(TV.one (AV.fz (FV.sl 1 list)))] [] r h :=
  Fn.by_tr (M := (modeOf [] [])) (lv := ref02_Encode_lv) (own := none) (F := Tryz.f81) (by kernel_rfl) (by kernel_rfl) (by first | decide | simp) (fun _ _ h => h) (by kernel_rfl) H
def ref02_Str_lv : List Nat → Keep := lvOf []
def ref02_Str_H (R : TV → List Ob → Prop) (list : List (List FV)) : Prop :=
  (∃ es1 : List (List FV), (∃ n3 : Int, ((Fn Tryz.prog 81 [(TV.one (AV.fz (FV.sl 1 list)))] [] (TV.tup [(false, [(AV.fz (FV.sl 1 es1))]), (false, [(AV.fz (FV.int .i64 n3))])]) []) ∧ (∃ ns1 : List Int, ((es1 = (List.map (fun n4 => [(FV.int .u8 n4)]) ns1)) ∧ (R (TV.one (AV.fz (FV.str (bytesOf ns1)))) []))))))
theorem ref02_Str_fn (list : List (List FV)) {r : TV} {h : List Ob} (H : ref02_Str_H (fun r' h' => r' = r ∧ h' = h) list) : Fn Tryz.prog 42 [(TV.one (AV.fz (FV.sl 1 list)))] [] r h :=
  Fn.by_tr (M := (modeOf [] [])) (lv := ref02_Str_lv) (own := none) (F := Tryz.f42) (by kernel_rfl) (by kernel_rfl) (by first | decide | simp) (fun _ _ h => h) (by kernel_rfl) H
def ref02_Hex_lv : List Nat → Keep := lvOf [([0, 1, 0, 1, 1, 1], ⟨25, 0, [], false, false⟩)]
def ref02_Hex_S0 (s : ByteArray) (n : Int) (i : Int) : St := (St.mk [(TV.one (AV.fz (FV.str s))), TV.und, TV.und, (TV.one (AV.fz (FV.int .i64 n))), (TV.one (AV.fz (FV.int .i64 i))), TV.und, TV.und, TV.und, TV.und, TV.und, TV.und, TV.und, TV.und, TV.und, TV.und, TV.und, TV.und, TV.und, TV.und, TV.und, TV.und, TV.und, TV.und, TV.und, TV.und, TV.und, TV.und, TV.und, TV.und, TV.und, TV.und, TV.und, TV.und, TV.und, TV.und, TV.und, TV.und, TV.und, TV.und, TV.und, TV.und, TV.und, TV.und, TV.und, TV.und, TV.und, TV.und, TV.und, TV.und, TV.und, TV.und, TV.und, TV.und, TV.und, TV.und, TV.und, TV.und, TV.und, TV.und, TV.und, TV.und, TV.und, TV.und, TV.und, TV.und, TV.und] [])
def ref02_Hex_L0 (R : TV → List Ob → Prop) (s : ByteArray) (n : Int) (i : Int) : Prop := LoopAt Tryz.prog (modeOf [] []) ref02_Hex_lv Tryz.f80 none R [1, 1, 1, 0, 1, 0] (ref02_Hex_S0 s n i)
def ref02_Hex_R0 (R : TV → List Ob → Prop) (s : ByteArray) (n : Int) (i : Int) : Prop :=
  ((((decide (i < (((ByteArray.size s) : Nat) : Int))) = true) → (((0 : Int) ≤ i) ∧ (∃ c2 : UInt8, ((((ByteArray.data s))[(Int.toNat i)]? = (some c2)) ∧ ((((decide ((48 : Int) ≤ (IntKind.wrap .i64 (((UInt8.toNat c2) : Nat) : Int)))) = true) → ((((decide ((IntKind.wrap .i64 (((UInt8.toNat c2) : Nat) : Int)) ≤ 57)) = true) → (ref02_Hex_L0 R s (IntKind.wrap .i64 ((IntKind.wrap .i64 ((IntKind.wrap .i64 (n * 16)) + (IntKind.wrap .i64 (((UInt8.toNat c2) : Nat) : Int)))) - 48)) (IntKind.wrap .i64 (i + 1)))) ∧ (((decide ((IntKind.wrap .i64 (((UInt8.toNat c2) : Nat) : Int)) ≤ 57)) = false) → ((((decide ((97 : Int) ≤ (IntKind.wrap .i64 (((UInt8.toNat c2) : Nat) : Int)))) = true) → ((((decide ((IntKind.wrap .i64 (((UInt8.toNat c2) : Nat) : Int)) ≤ 102)) = true) → (ref02_Hex_L0 R s (IntKind.wrap .i64 ((IntKind.wrap .i64 ((IntKind.wrap .i64 ((IntKind.wrap .i64 (n * 16)) + (IntKind.wrap .i64 (((UInt8.toNat c2) : Nat) : Int)))) - 97)) + 10)) (IntKind.wrap .i64 (i + 1)))) ∧ (((decide ((IntKind.wrap .i64 (((UInt8.toNat c2) : Nat) : Int)) ≤ 102)) = false) → ((((decide ((65 : Int) ≤ (IntKind.wrap .i64 (((UInt8.toNat c2) : Nat) : Int)))) = true) → ((((decide ((IntKind.wrap .i64 (((UInt8.toNat c2) : Nat) : Int)) ≤ 70)) = true) → (ref02_Hex_L0 R s (IntKind.wrap .i64 ((IntKind.wrap .i64 ((IntKind.wrap .i64 ((IntKind.wrap .i64 (n * 16)) + (IntKind.wrap .i64 (((UInt8.toNat c2) : Nat) : Int)))) - 65)) + 10)) (IntKind.wrap .i64 (i + 1)))) ∧ (((decide ((IntKind.wrap .i64 (((UInt8.toNat c2) : Nat) : Int)) ≤ 70)) = false) → (R (TV.one (AV.fz (FV.int .i64 (-1)))) [])))) ∧ (((decide ((65 : Int) ≤ (IntKind.wrap .i64 (((UInt8.toNat c2) : Nat) : Int)))) = false) → (R (TV.one (AV.fz (FV.int .i64 (-1)))) [])))))) ∧ (((decide ((97 : Int) ≤ (IntKind.wrap .i64 (((UInt8.toNat c2) : Nat) : Int)))) = false) → ((((decide ((65 : Int) ≤ (IntKind.wrap .i64 (((UInt8.toNat c2) : Nat) : Int)))) = true) → ((((decide ((IntKind.wrap .i64 (((UInt8.toNat c2) : Nat) : Int)) ≤ 70)) = true) → (ref02_Hex_L0 R s (IntKind.wrap .i64 ((IntKind.wrap .i64 ((IntKind.wrap .i64 ((IntKind.wrap .i64 (n * 16)) + (IntKind.wrap .i64 (((UInt8.toNat c2) : Nat) : Int)))) - 65)) + 10)) (IntKind.wrap .i64 (i + 1)))) ∧ (((decide ((IntKind.wrap .i64 (((UInt8.toNat c2) : Nat) : Int)) ≤ 70)) = false) → (R (TV.one (AV.fz (FV.int .i64 (-1)))) [])))) ∧ (((decide ((65 : Int) ≤ (IntKind.wrap .i64 (((UInt8.toNat c2) : Nat) : Int)))) = false) → (R (TV.one (AV.fz (FV.int .i64 (-1)))) [])))))))) ∧ (((decide ((48 : Int) ≤ (IntKind.wrap .i64 (((UInt8.toNat c2) : Nat) : Int)))) = false) → ((((decide ((97 : Int) ≤ (IntKind.wrap .i64 (((UInt8.toNat c2) : Nat) : Int)))) = true) → ((((decide ((IntKind.wrap .i64 (((UInt8.toNat c2) : Nat) : Int)) ≤ 102)) = true) → (ref02_Hex_L0 R s (IntKind.wrap .i64 ((IntKind.wrap .i64 ((IntKind.wrap .i64 ((IntKind.wrap .i64 (n * 16)) + (IntKind.wrap .i64 (((UInt8.toNat c2) : Nat) : Int)))) - 97)) + 10)) (IntKind.wrap .i64 (i + 1)))) ∧ (((decide ((IntKind.wrap .i64 (((UInt8.toNat c2) : Nat) : Int)) ≤ 102)) = false) → ((((decide ((65 : Int) ≤ (IntKind.wrap .i64 (((UInt8.toNat c2) : Nat) : Int)))) = true) → ((((decide ((IntKind.wrap .i64 (((UInt8.toNat c2) : Nat) : Int)) ≤ 70)) = true) → (ref02_Hex_L0 R s (IntKind.wrap .i64 ((IntKind.wrap .i64 ((IntKind.wrap .i64 ((IntKind.wrap .i64 (n * 16)) + (IntKind.wrap .i64 (((UInt8.toNat c2) : Nat) : Int)))) - 65)) + 10)) (IntKind.wrap .i64 (i + 1)))) ∧ (((decide ((IntKind.wrap .i64 (((UInt8.toNat c2) : Nat) : Int)) ≤ 70)) = false) → (R (TV.one (AV.fz (FV.int .i64 (-1)))) [])))) ∧ (((decide ((65 : Int) ≤ (IntKind.wrap .i64 (((UInt8.toNat c2) : Nat) : Int)))) = false) → (R (TV.one (AV.fz (FV.int .i64 (-1)))) [])))))) ∧ (((decide ((97 : Int) ≤ (IntKind.wrap .i64 (((UInt8.toNat c2) : Nat) : Int)))) = false) → ((((decide ((65 : Int) ≤ (IntKind.wrap .i64 (((UInt8.toNat c2) : Nat) : Int)))) = true) → ((((decide ((IntKind.wrap .i64 (((UInt8.toNat c2) : Nat) : Int)) ≤ 70)) = true) → (ref02_Hex_L0 R s (IntKind.wrap .i64 ((IntKind.wrap .i64 ((IntKind.wrap .i64 ((IntKind.wrap .i64 (n * 16)) + (IntKind.wrap .i64 (((UInt8.toNat c2) : Nat) : Int)))) - 65)) + 10)) (IntKind.wrap .i64 (i + 1)))) ∧ (((decide ((IntKind.wrap .i64 (((UInt8.toNat c2) : Nat) : Int)) ≤ 70)) = false) → (R (TV.one (AV.fz (FV.int .i64 (-1)))) [])))) ∧ (((decide ((65 : Int) ≤ (IntKind.wrap .i64 (((UInt8.toNat c2) : Nat) : Int)))) = false) → (R (TV.one (AV.fz (FV.int .i64 (-1)))) []))))))))))) ∧ (((decide (i < (((ByteArray.size s) : Nat) : Int))) = false) → (∃ b2 : Bool, ((Fn Tryz.prog 38 [(TV.one (AV.fz (FV.int .i64 n)))] [] (TV.one (AV.fz (FV.bool b2))) []) ∧ ((((Bool.not b2) = true) → (R (TV.one (AV.fz (FV.int .i64 (-1)))) [])) ∧ (((Bool.not b2) = false) → (R (TV.one (AV.fz (FV.int .i64 n))) [])))))))
theorem ref02_Hex_l0 {R : TV → List Ob → Prop} {s : ByteArray} {n : Int} {i : Int} (h : ref02_Hex_R0 R s n i) : ref02_Hex_L0 R s n i :=
  LoopAt.by_tr (by kernel_rfl) (by kernel_rfl) h
def ref02_Hex_H (R : TV → List Ob → Prop) (s : ByteArray) : Prop :=
  ((((decide ((((ByteArray.size s) : Nat) : Int) < 1)) = true) → (R (TV.one (AV.fz (FV.int .i64 (-1)))) [])) ∧ (((decide ((((ByteArray.size s) : Nat) : Int) < 1)) = false) → ((((decide ((6 : Int) < (((ByteArray.size s) : Nat) : Int))) = true) → (R (TV.one (AV.fz (FV.int .i64 (-1)))) [])) ∧ (((decide ((6 : Int) < (((ByteArray.size s) : Nat) : Int))) = false) → (ref02_Hex_L0 R s 0 0)))))
theorem ref02_Hex_fn (s : ByteArray) {r : TV} {h : List Ob} (H : ref02_Hex_H (fun r' h' => r' = r ∧ h' = h) s) : Fn Tryz.prog 80 [(TV.one (AV.fz (FV.str s)))] [] r h :=
  Fn.by_tr (M := (modeOf [] [])) (lv := ref02_Hex_lv) (own := none) (F := Tryz.f80) (by kernel_rfl) (by kernel_rfl) (by first | decide | simp) (fun _ _ h => h) (by kernel_rfl) H
def ref02_Named_lv : List Nat → Keep := lvOf []
def ref02_Named_H (R : TV → List Ob → Prop) (s : ByteArray) : Prop :=
  (((((ByteArray.toList s) == (ByteArray.toList (ByteArray.mk #[115, 112, 97, 99, 101]))) = true) → (R (TV.tup [(false, [(AV.fz (FV.int .i64 32))]), (false, [(AV.fz (FV.bool true))])]) [])) ∧ ((((ByteArray.toList s) == (ByteArray.toList (ByteArray.mk #[115, 112, 97, 99, 101]))) = false) → (((((ByteArray.toList s) == (ByteArray.toList (ByteArray.mk #[110, 101, 119, 108, 105, 110, 101]))) = true) → (R (TV.tup [(false, [(AV.fz (FV.int .i64 10))]), (false, [(AV.fz (FV.bool true))])]) [])) ∧ ((((ByteArray.toList s) == (ByteArray.toList (ByteArray.mk #[110, 101, 119, 108, 105, 110, 101]))) = false) → (((((ByteArray.toList s) == (ByteArray.toList (ByteArray.mk #[116, 97, 98]))) = true) → (R (TV.tup [(false, [(AV.fz (FV.int .i64 9))]), (false, [(AV.fz (FV.bool true))])]) [])) ∧ ((((ByteArray.toList s) == (ByteArray.toList (ByteArray.mk #[116, 97, 98]))) = false) → (((((ByteArray.toList s) == (ByteArray.toList (ByteArray.mk #[114, 101, 116, 117, 114, 110]))) = true) → (R (TV.tup [(false, [(AV.fz (FV.int .i64 13))]), (false, [(AV.fz (FV.bool true))])]) [])) ∧ ((((ByteArray.toList s) == (ByteArray.toList (ByteArray.mk #[114, 101, 116, 117, 114, 110]))) = false) → (((((ByteArray.toList s) == (ByteArray.toList (ByteArray.mk #[110, 117, 108, 108]))) = true) → (R (TV.tup [(false, [(AV.fz (FV.int .i64 0))]), (false, [(AV.fz (FV.bool true))])]) [])) ∧ ((((ByteArray.toList s) == (ByteArray.toList (ByteArray.mk #[110, 117, 108, 108]))) = false) → (((((ByteArray.toList s) == (ByteArray.toList (ByteArray.mk #[100, 101, 108, 101, 116, 101]))) = true) → (R (TV.tup [(false, [(AV.fz (FV.int .i64 127))]), (false, [(AV.fz (FV.bool true))])]) [])) ∧ ((((ByteArray.toList s) == (ByteArray.toList (ByteArray.mk #[100, 101, 108, 101, 116, 101]))) = false) → (∃ es1 : List (List FV), (∃ n4 : Int, ((Fn Tryz.prog 30 [(TV.one (AV.fz (FV.sl 1 (List.map (fun b3 => [(FV.int .u8 (((UInt8.toNat b3) : Nat) : Int))]) (Array.toList (ByteArray.data s))))))] [] (TV.tup [(false, [(AV.fz (FV.sl 1 es1))]), (false, [(AV.fz (FV.int .i64 n4))])]) []) ∧ ((((decide (n4 < 0)) = true) → (((((((List.length es1) : Nat) : Int) == 1) = true) → (((0 : Int) ≤ 0) ∧ (∃ n5 : Int, (((es1)[(Int.toNat 0)]? = (some [(FV.int .i64 n5)])) ∧ (R (TV.tup [(false, [(AV.fz (FV.int .i64 n5))]), (false, [(AV.fz (FV.bool true))])]) []))))) ∧ ((((((List.length es1) : Nat) : Int) == 1) = false) → ((((decide ((2 : Int) ≤ (((ByteArray.size s) : Nat) : Int))) = true) → (((0 : Int) ≤ 0) ∧ (∃ c2 : UInt8, ((((ByteArray.data s))[(Int.toNat 0)]? = (some c2)) ∧ (((((((UInt8.toNat c2) : Nat) : Int) == 120) = true) → ((((0 : Int) ≤ 1) ∧ ((1 : Int) ≤ (((ByteArray.size s) : Nat) : Int))) ∧ (∃ n6 : Int, ((Fn Tryz.prog 80 [(TV.one (AV.fz (FV.str (ByteArray.extract s (Int.toNat 1) (ByteArray.size s)))))] [] (TV.one (AV.fz (FV.int .i64 n6))) []) ∧ ((((decide ((0 : Int) ≤ n6)) = true) → (R (TV.tup [(false, [(AV.fz (FV.int .i64 n6))]), (false, [(AV.fz (FV.bool true))])]) [])) ∧ (((decide ((0 : Int) ≤ n6)) = false) → (R (TV.tup [(false, [(AV.fz (FV.int .i64 0))]), (false, [(AV.fz (FV.bool false))])]) []))))))) ∧ ((((((UInt8.toNat c2) : Nat) : Int) == 120) = false) → (R (TV.tup [(false, [(AV.fz (FV.int .i64 0))]), (false, [(AV.fz (FV.bool false))])]) []))))))) ∧ (((decide ((2 : Int) ≤ (((ByteArray.size s) : Nat) : Int))) = false) → (R (TV.tup [(false, [(AV.fz (FV.int .i64 0))]), (false, [(AV.fz (FV.bool false))])]) [])))))) ∧ (((decide (n4 < 0)) = false) → ((((decide ((2 : Int) ≤ (((ByteArray.size s) : Nat) : Int))) = true) → (((0 : Int) ≤ 0) ∧ (∃ c3 : UInt8, ((((ByteArray.data s))[(Int.toNat 0)]? = (some c3)) ∧ (((((((UInt8.toNat c3) : Nat) : Int) == 120) = true) → ((((0 : Int) ≤ 1) ∧ ((1 : Int) ≤ (((ByteArray.size s) : Nat) : Int))) ∧ (∃ n7 : Int, ((Fn Tryz.prog 80 [(TV.one (AV.fz (FV.str (ByteArray.extract s (Int.toNat 1) (ByteArray.size s)))))] [] (TV.one (AV.fz (FV.int .i64 n7))) []) ∧ ((((decide ((0 : Int) ≤ n7)) = true) → (R (TV.tup [(false, [(AV.fz (FV.int .i64 n7))]), (false, [(AV.fz (FV.bool true))])]) [])) ∧ (((decide ((0 : Int) ≤ n7)) = false) → (R (TV.tup [(false, [(AV.fz (FV.int .i64 0))]), (false, [(AV.fz (FV.bool false))])]) []))))))) ∧ ((((((UInt8.toNat c3) : Nat) : Int) == 120) = false) → (R (TV.tup [(false, [(AV.fz (FV.int .i64 0))]), (false, [(AV.fz (FV.bool false))])]) []))))))) ∧ (((decide ((2 : Int) ≤ (((ByteArray.size s) : Nat) : Int))) = false) → (R (TV.tup [(false, [(AV.fz (FV.int .i64 0))]), (false, [(AV.fz (FV.bool false))])]) []))))))))))))))))))))
theorem ref02_Named_fn (s : ByteArray) {r : TV} {h : List Ob} (H : ref02_Named_H (fun r' h' => r' = r ∧ h' = h) s) : Fn Tryz.prog 45 [(TV.one (AV.fz (FV.str s)))] [] r h :=
  Fn.by_tr (M := (modeOf [] [])) (lv := ref02_Named_lv) (own := none) (F := Tryz.f45) (by kernel_rfl) (by kernel_rfl) (by first | decide | simp) (fun _ _ h => h) (by kernel_rfl) H
def ref02_at_lv : List Nat → Keep := lvOf []
def ref02_at_H (R : TV → List Ob → Prop) (t_ : List (List FV)) (i : Int) : Prop :=
  ((((decide (i < 0)) = true) → (R (TV.one (AV.fz (FV.int .i64 (-1)))) [])) ∧ (((decide (i < 0)) = false) → ((((decide ((((List.length t_) : Nat) : Int) ≤ i)) = true) → (R (TV.one (AV.fz (FV.int .i64 (-1)))) [])) ∧ (((decide ((((List.length t_) : Nat) : Int) ≤ i)) = false) → (((0 : Int) ≤ i) ∧ (∃ n1 : Int, (((t_)[(Int.toNat i)]? = (some [(FV.int .i64 n1)])) ∧ (R (TV.one (AV.fz (FV.int .i64 n1))) []))))))))
theorem ref02_at_fn (t_ : List (List FV)) (i : Int) {r : TV} {h : List Ob} (H : ref02_at_H (fun r' h' => r' = r ∧ h' = h) t_ i) : Fn Tryz.prog 43 [(TV.one (AV.fz (FV.sl 1 t_))), (TV.one (AV.fz (FV.int .i64 i)))] [] r h :=
  Fn.by_tr (M := (modeOf [] [])) (lv := ref02_at_lv) (own := none) (F := Tryz.f43) (by kernel_rfl) (by kernel_rfl) (by first | decide | simp) (fun _ _ h => h) (by kernel_rfl) H
def ref02_until_lv : List Nat → Keep := lvOf [([0, 0, 1], ⟨3, 0, [], false, false⟩)]
def ref02_until_S0 (t_ : List (List FV)) (i1 : Int) : St := (St.mk [(TV.one (AV.fz (FV.sl 1 t_))), (TV.one (AV.fz (FV.int .i64 i1))), TV.und, TV.und, TV.und, TV.und, TV.und, TV.und, TV.und, TV.und, TV.und, TV.und, TV.und, TV.und, TV.und, TV.und, TV.und, TV.und, TV.und, TV.und] [])
def ref02_until_L0 (R : TV → List Ob → Prop) (t_ : List (List FV)) (i1 : Int) : Prop := LoopAt Tryz.prog (modeOf [] []) ref02_until_lv Tryz.f44 none R [1, 0, 0] (ref02_until_S0 t_ i1)
def ref02_until_R0 (R : TV → List Ob → Prop) (t_ : List (List FV)) (i1 : Int) : Prop :=
  ((((decide (i1 < (((List.length t_) : Nat) : Int))) = true) → (((0 : Int) ≤ i1) ∧ (∃ n2 : Int, (((t_)[(Int.toNat i1)]? = (some [(FV.int .i64 n2)])) ∧ (∃ b2 : Bool, ((Fn Tryz.prog 55 [(TV.one (AV.fz (FV.int .i64 n2)))] [] (TV.one (AV.fz (FV.bool b2))) []) ∧ ((((Bool.not b2) = true) → (ref02_until_L0 R t_ (IntKind.wrap .i64 (i1 + 1)))) ∧ (((Bool.not b2) = false) → (R (TV.one (AV.fz (FV.int .i64 i1))) []))))))))) ∧ (((decide (i1 < (((List.length t_) : Nat) : Int))) = false) → (R (TV.one (AV.fz (FV.int .i64 i1))) [])))
theorem ref02_until_l0 {R : TV → List Ob → Prop} {t_ : List (List FV)} {i1 : Int} (h : ref02_until_R0 R t_ i1) : ref02_until_L0 R t_ i1 :=
  LoopAt.by_tr (by kernel_rfl) (by kernel_rfl) h
def ref02_until_H (R : TV → List Ob → Prop) (t_ : List (List FV)) (i : Int) : Prop :=
  (ref02_until_L0 R t_ i)
theorem ref02_until_fn (t_ : List (List FV)) (i : Int) {r : TV} {h : List Ob} (H : ref02_until_H (fun r' h' => r' = r ∧ h' = h) t_ i) : Fn Tryz.prog 44 [(TV.one (AV.fz (FV.sl 1 t_))), (TV.one (AV.fz (FV.int .i64 i)))] [] r h :=
  Fn.by_tr (M := (modeOf [] [])) (lv := ref02_until_lv) (own := none) (F := Tryz.f44) (by kernel_rfl) (by kernel_rfl) (by first | decide | simp) (fun _ _ h => h) (by kernel_rfl) H
def ref02_text_lv : List Nat → Keep := lvOf [([0, 0, 1, 1], ⟨67, 0, [], false, false⟩), ([0, 0, 1, 0, 1, 1, 1, 1, 1, 1, 1, 1, 1, 0, 1, 0, 1, 1, 1, 0, 1, 0, 0, 0, 1, 1], ⟨323, 0, [], false, false⟩)]
def ref02_text_S0 (t_ : List (List FV)) (i1 : Int) (o : List (List FV)) : St := (St.mk [(TV.one (AV.fz (FV.sl 1 t_))), (TV.one (AV.fz (FV.int .i64 i1))), TV.und, TV.und, TV.und, TV.und, (TV.one (AV.ofl 1 0)), TV.und, TV.und, TV.und, TV.und, TV.und, TV.und, TV.und, TV.und, TV.und, TV.und, TV.und, TV.und, TV.und, TV.und, TV.und, TV.und, TV.und, TV.und, TV.und, TV.und, TV.und, TV.und, TV.und, TV.und, TV.und, TV.und, TV.und, TV.und, TV.und, TV.und, TV.und, TV.und, TV.und, TV.und, TV.und, TV.und, TV.und, TV.und, TV.und, TV.und, TV.und, TV.und, TV.und, TV.und, TV.und, TV.und, TV.und, TV.und, TV.und, TV.und, TV.und, TV.und, TV.und, TV.und, TV.und, TV.und, TV.und, TV.und, TV.und, TV.und, TV.und, TV.und, TV.und, TV.und, TV.und, TV.und, TV.und, TV.und, TV.und, TV.und, TV.und, TV.und, TV.und, TV.und, TV.und, TV.und, TV.und, TV.und, TV.und, TV.und, TV.und, TV.und, TV.und, TV.und, TV.und, TV.und, TV.und, TV.und, TV.und, TV.und, TV.und, TV.und, TV.und, TV.und, TV.und, TV.und, TV.und, TV.und, TV.und, TV.und, TV.und] [(Ob.f 0 1 o)])
def ref02_text_L0 (R : TV → List Ob → Prop) (t_ : List (List FV)) (i1 : Int) (o : List (List FV)) : Prop := LoopAt Tryz.prog (modeOf [] []) ref02_text_lv Tryz.f41 none R [1, 1, 0, 0] (ref02_text_S0 t_ i1 o)
def ref02_text_S1 (t_ : List (List FV)) (i2 : Int) (k : Int) (o1 : List (List FV)) : St := (St.mk [(TV.one (AV.fz (FV.sl 1 t_))), (TV.one (AV.fz (FV.int .i64 i2))), TV.und, TV.und, TV.und, TV.und, (TV.one (AV.ofl 1 0)), TV.und, (TV.one (AV.fz (FV.int .i64 k))), TV.und, TV.und, TV.und, TV.und, TV.und, TV.und, TV.und, TV.und, TV.und, TV.und, TV.und, TV.und, TV.und, TV.und, TV.und, TV.und, TV.und, TV.und, TV.und, TV.und, TV.und, TV.und, TV.und, TV.und, TV.und, TV.und, TV.und, TV.und, TV.und, TV.und, TV.und, TV.und, TV.und, TV.und, TV.und, TV.und, TV.und, TV.und, TV.und, TV.und, TV.und, TV.und, TV.und, TV.und, TV.und, TV.und, TV.und, TV.und, TV.und, TV.und, TV.und, TV.und, TV.und, TV.und, TV.und, TV.und, TV.und, TV.und, TV.und, TV.und, TV.und, TV.und, TV.und, TV.und, TV.und, TV.und, TV.und, TV.und, TV.und, TV.und, TV.und, TV.und, TV.und, TV.und, TV.und, TV.und, TV.und, TV.und, TV.und, TV.und, TV.und, TV.und, TV.und, TV.und, TV.und, TV.und, TV.und, TV.und, TV.und, TV.und, TV.und, TV.und, TV.und, TV.und, TV.und, TV.und, TV.und, TV.und, TV.und] [(Ob.f 0 1 o1)])
def ref02_text_L1 (R : TV → List Ob → Prop) (t_ : List (List FV)) (i2 : Int) (k : Int) (o1 : List (List FV)) : Prop := LoopAt Tryz.prog (modeOf [] []) ref02_text_lv Tryz.f41 none R [1, 1, 0, 0, 0, 1, 0, 1, 1, 1, 0, 1, 0, 1, 1, 1, 1, 1, 1, 1, 1, 1, 0, 1, 0, 0] (ref02_text_S1 t_ i2 k o1)
def ref02_text_R0 (R : TV → List Ob → Prop) (t_ : List (List FV)) (i1 : Int) (o : List (List FV)) : Prop :=
  ((((decide (i1 < (((List.length t_) : Nat) : Int))) = true) → (((0 : Int) ≤ i1) ∧ (∃ n22 : Int, (((t_)[(Int.toNat i1)]? = (some [(FV.int .i64 n22)])) ∧ ((((n22 == 34) = true) → ((((decide ((4096 : Int) < (((List.length o) : Nat) : Int))) = true) → (R (TV.tup [(false, [(AV.fz (FV.sl 1 ([] : List (List FV))))]), (false, [(AV.fz (FV.int .i64 (-1)))])]) [])) ∧ (((decide ((4096 : Int) < (((List.length o) : Nat) : Int))) = false) → (R (TV.tup [(false, [(AV.fz (FV.sl 1 o))]), (false, [(AV.fz (FV.int .i64 (IntKind.wrap .i64 (i1 + 1))))])]) [])))) ∧ (((n22 == 34) = false) → ((((n22 != 92) = true) → (((((List.length o) + (List.length [[(FV.int .i64 n22)]])) * 8) ≤ 220000000000000) ∧ (ref02_text_L0 R t_ (IntKind.wrap .i64 (i1 + 1)) (o ++ [[(FV.int .i64 n22)]])))) ∧ (((n22 != 92) = false) → (∃ n23 : Int, ((Fn Tryz.prog 43 [(TV.one (AV.fz (FV.sl 1 t_))), (TV.one (AV.fz (FV.int .i64 (IntKind.wrap .i64 (i1 + 1)))))] [] (TV.one (AV.fz (FV.int .i64 n23))) []) ∧ ((((n23 == 110) = true) → (((((List.length o) + (List.length [[(FV.int .i64 10)]])) * 8) ≤ 220000000000000) ∧ (ref02_text_L0 R t_ (IntKind.wrap .i64 (i1 + 2)) (o ++ [[(FV.int .i64 10)]])))) ∧ (((n23 == 110) = false) → ((((n23 == 116) = true) → (((((List.length o) + (List.length [[(FV.int .i64 9)]])) * 8) ≤ 220000000000000) ∧ (ref02_text_L0 R t_ (IntKind.wrap .i64 (i1 + 2)) (o ++ [[(FV.int .i64 9)]])))) ∧ (((n23 == 116) = false) → ((((n23 == 114) = true) → (((((List.length o) + (List.length [[(FV.int .i64 13)]])) * 8) ≤ 220000000000000) ∧ (ref02_text_L0 R t_ (IntKind.wrap .i64 (i1 + 2)) (o ++ [[(FV.int .i64 13)]])))) ∧ (((n23 == 114) = false) → ((((n23 == 92) = true) → (((0 : Int) ≤ (IntKind.wrap .i64 (i1 + 1))) ∧ (∃ n24 : Int, (((t_)[(Int.toNat (IntKind.wrap .i64 (i1 + 1)))]? = (some [(FV.int .i64 n24)])) ∧ (((((List.length o) + (List.length [[(FV.int .i64 n24)]])) * 8) ≤ 220000000000000) ∧ (ref02_text_L0 R t_ (IntKind.wrap .i64 (i1 + 2)) (o ++ [[(FV.int .i64 n24)]]))))))) ∧ (((n23 == 92) = false) → ((((n23 == 34) = true) → (((0 : Int) ≤ (IntKind.wrap .i64 (i1 + 1))) ∧ (∃ n25 : Int, (((t_)[(Int.toNat (IntKind.wrap .i64 (i1 + 1)))]? = (some [(FV.int .i64 n25)])) ∧ (((((List.length o) + (List.length [[(FV.int .i64 n25)]])) * 8) ≤ 220000000000000) ∧ (ref02_text_L0 R t_ (IntKind.wrap .i64 (i1 + 2)) (o ++ [[(FV.int .i64 n25)]]))))))) ∧ (((n23 == 34) = false) → ((((n23 == 120) = true) → (ref02_text_L1 R t_ i1 (IntKind.wrap .i64 (i1 + 2)) o)) ∧ (((n23 == 120) = false) → (R (TV.tup [(false, [(AV.fz (FV.sl 1 ([] : List (List FV))))]), (false, [(AV.fz (FV.int .i64 (-1)))])]) []))))))))))))))))))))))) ∧ (((decide (i1 < (((List.length t_) : Nat) : Int))) = false) → (R (TV.tup [(false, [(AV.fz (FV.sl 1 ([] : List (List FV))))]), (false, [(AV.fz (FV.int .i64 (-1)))])]) [])))
theorem ref02_text_l0 {R : TV → List Ob → Prop} {t_ : List (List FV)} {i1 : Int} {o : List (List FV)} (h : ref02_text_R0 R t_ i1 o) : ref02_text_L0 R t_ i1 o :=
  LoopAt.by_tr (by kernel_rfl) (by kernel_rfl) h
def ref02_text_R1 (R : TV → List Ob → Prop) (t_ : List (List FV)) (i2 : Int) (k : Int) (o1 : List (List FV)) : Prop :=
  ((((decide (k < (((List.length t_) : Nat) : Int))) = true) → (((0 : Int) ≤ k) ∧ (∃ n22 : Int, (((t_)[(Int.toNat k)]? = (some [(FV.int .i64 n22)])) ∧ ((((n22 != 59) = true) → ((((decide (k < (IntKind.wrap .i64 (i2 + 9)))) = true) → (ref02_text_L1 R t_ i2 (IntKind.wrap .i64 (k + 1)) o1)) ∧ (((decide (k < (IntKind.wrap .i64 (i2 + 9)))) = false) → (∃ n23 : Int, ((Fn Tryz.prog 43 [(TV.one (AV.fz (FV.sl 1 t_))), (TV.one (AV.fz (FV.int .i64 k)))] [] (TV.one (AV.fz (FV.int .i64 n23))) []) ∧ ((((n23 != 59) = true) → (R (TV.tup [(false, [(AV.fz (FV.sl 1 ([] : List (List FV))))]), (false, [(AV.fz (FV.int .i64 (-1)))])]) [])) ∧ (((n23 != 59) = false) → ((((0 : Int) ≤ (IntKind.wrap .i64 (i2 + 2))) ∧ (((IntKind.wrap .i64 (i2 + 2)) ≤ k) ∧ (k ≤ (((List.length t_) : Nat) : Int)))) ∧ (∃ s6 : ByteArray, ((Fn Tryz.prog 42 [(TV.one (AV.fz (FV.sl 1 (List.drop (Int.toNat (IntKind.wrap .i64 (i2 + 2))) (List.take (Int.toNat k) t_)))))] [] (TV.one (AV.fz (FV.str s6))) []) ∧ (∃ n24 : Int, ((Fn Tryz.prog 80 [(TV.one (AV.fz (FV.str s6)))] [] (TV.one (AV.fz (FV.int .i64 n24))) []) ∧ ((((decide (n24 < 0)) = true) → (R (TV.tup [(false, [(AV.fz (FV.sl 1 ([] : List (List FV))))]), (false, [(AV.fz (FV.int .i64 (-1)))])]) [])) ∧ (((decide (n24 < 0)) = false) → (((((List.length o1) + (List.length [[(FV.int .i64 n24)]])) * 8) ≤ 220000000000000) ∧ (ref02_text_L0 R t_ (IntKind.wrap .i64 (k + 1)) (o1 ++ [[(FV.int .i64 n24)]]))))))))))))))))) ∧ (((n22 != 59) = false) → (∃ n25 : Int, ((Fn Tryz.prog 43 [(TV.one (AV.fz (FV.sl 1 t_))), (TV.one (AV.fz (FV.int .i64 k)))] [] (TV.one (AV.fz (FV.int .i64 n25))) []) ∧ ((((n25 != 59) = true) → (R (TV.tup [(false, [(AV.fz (FV.sl 1 ([] : List (List FV))))]), (false, [(AV.fz (FV.int .i64 (-1)))])]) [])) ∧ (((n25 != 59) = false) → ((((0 : Int) ≤ (IntKind.wrap .i64 (i2 + 2))) ∧ (((IntKind.wrap .i64 (i2 + 2)) ≤ k) ∧ (k ≤ (((List.length t_) : Nat) : Int)))) ∧ (∃ s7 : ByteArray, ((Fn Tryz.prog 42 [(TV.one (AV.fz (FV.sl 1 (List.drop (Int.toNat (IntKind.wrap .i64 (i2 + 2))) (List.take (Int.toNat k) t_)))))] [] (TV.one (AV.fz (FV.str s7))) []) ∧ (∃ n26 : Int, ((Fn Tryz.prog 80 [(TV.one (AV.fz (FV.str s7)))] [] (TV.one (AV.fz (FV.int .i64 n26))) []) ∧ ((((decide (n26 < 0)) = true) → (R (TV.tup [(false, [(AV.fz (FV.sl 1 ([] : List (List FV))))]), (false, [(AV.fz (FV.int .i64 (-1)))])]) [])) ∧ (((decide (n26 < 0)) = false) → (((((List.length o1) + (List.length [[(FV.int .i64 n26)]])) * 8) ≤ 220000000000000) ∧ (ref02_text_L0 R t_ (IntKind.wrap .i64 (k + 1)) (o1 ++ [[(FV.int .i64 n26)]])))))))))))))))))))) ∧ (((decide (k < (((List.length t_) : Nat) : Int))) = false) → (∃ n27 : Int, ((Fn Tryz.prog 43 [(TV.one (AV.fz (FV.sl 1 t_))), (TV.one (AV.fz (FV.int .i64 k)))] [] (TV.one (AV.fz (FV.int .i64 n27))) []) ∧ ((((n27 != 59) = true) → (R (TV.tup [(false, [(AV.fz (FV.sl 1 ([] : List (List FV))))]), (false, [(AV.fz (FV.int .i64 (-1)))])]) [])) ∧ (((n27 != 59) = false) → ((((0 : Int) ≤ (IntKind.wrap .i64 (i2 + 2))) ∧ (((IntKind.wrap .i64 (i2 + 2)) ≤ k) ∧ (k ≤ (((List.length t_) : Nat) : Int)))) ∧ (∃ s8 : ByteArray, ((Fn Tryz.prog 42 [(TV.one (AV.fz (FV.sl 1 (List.drop (Int.toNat (IntKind.wrap .i64 (i2 + 2))) (List.take (Int.toNat k) t_)))))] [] (TV.one (AV.fz (FV.str s8))) []) ∧ (∃ n28 : Int, ((Fn Tryz.prog 80 [(TV.one (AV.fz (FV.str s8)))] [] (TV.one (AV.fz (FV.int .i64 n28))) []) ∧ ((((decide (n28 < 0)) = true) → (R (TV.tup [(false, [(AV.fz (FV.sl 1 ([] : List (List FV))))]), (false, [(AV.fz (FV.int .i64 (-1)))])]) [])) ∧ (((decide (n28 < 0)) = false) → (((((List.length o1) + (List.length [[(FV.int .i64 n28)]])) * 8) ≤ 220000000000000) ∧ (ref02_text_L0 R t_ (IntKind.wrap .i64 (k + 1)) (o1 ++ [[(FV.int .i64 n28)]]))))))))))))))))
theorem ref02_text_l1 {R : TV → List Ob → Prop} {t_ : List (List FV)} {i2 : Int} {k : Int} {o1 : List (List FV)} (h : ref02_text_R1 R t_ i2 k o1) : ref02_text_L1 R t_ i2 k o1 :=
  LoopAt.by_tr (by kernel_rfl) (by kernel_rfl) h
def ref02_text_H (R : TV → List Ob → Prop) (t_ : List (List FV)) (i : Int) : Prop :=
  (ref02_text_L0 R t_ i ([] : List (List FV)))
theorem ref02_text_fn (t_ : List (List FV)) (i : Int) {r : TV} {h : List Ob} (H : ref02_text_H (fun r' h' => r' = r ∧ h' = h) t_ i) : Fn Tryz.prog 41 [(TV.one (AV.fz (FV.sl 1 t_))), (TV.one (AV.fz (FV.int .i64 i)))] [] r h :=
  Fn.by_tr (M := (modeOf [] [])) (lv := ref02_text_lv) (own := none) (F := Tryz.f41) (by kernel_rfl) (by kernel_rfl) (by first | decide | simp) (fun _ _ h => h) (by kernel_rfl) H
def ref02_sign_lv : List Nat → Keep := lvOf [([1, 1, 0, 0, 1, 1, 1], ⟨384, 0, [], false, true⟩), ([1, 1, 1, 1, 0, 0, 1, 1, 1], ⟨384, 0, [], false, true⟩), ([1, 1, 1, 1, 1, 1, 0, 0, 1, 1, 1], ⟨384, 0, [], false, true⟩), ([1, 1, 1, 1, 1, 1, 1, 1, 0, 0, 1, 1, 1], ⟨384, 0, [], false, true⟩), ([1, 1, 1, 1, 1, 1, 1, 1, 1, 1, 0, 0, 1, 1, 1], ⟨384, 0, [], false, true⟩), ([1, 1, 1, 1, 1, 1, 1, 1, 1, 1, 1, 1, 0, 0, 1, 1, 1], ⟨384, 0, [], false, true⟩), ([1, 1, 1, 1, 1, 1, 1, 1, 1, 1, 1, 1, 1, 1, 0, 0, 1, 1, 1], ⟨384, 0, [], false, true⟩), ([1, 1, 1, 1, 1, 1, 1, 1, 1, 1, 1, 1, 1, 1, 1, 1, 1, 1, 1, 1, 1, 1, 1, 1, 1, 1, 0, 0, 1, 1, 1], ⟨0, 0, [], false, true⟩)]
def ref02_sign_S0 (n : Int) (n1 : Int) : St := (St.mk [TV.und, TV.und, TV.und, TV.und, TV.und, TV.und, TV.und, (TV.one (AV.fz (FV.int .i64 n))), (TV.one (AV.fz (FV.int .i64 n1))), TV.und, TV.und, TV.und, TV.und, TV.und, TV.und, TV.und, TV.und, TV.und, TV.und, TV.und, TV.und, TV.und, TV.und, TV.und, TV.und, TV.und, TV.und, TV.und, TV.und, TV.und, TV.und, TV.und, TV.und, TV.und, TV.und, TV.und, TV.und, TV.und, TV.und, TV.und, TV.und, TV.und, TV.und, TV.und, TV.und, TV.und, TV.und, TV.und, TV.und, TV.und, TV.und, TV.und, TV.und, TV.und, TV.und, TV.und, TV.und, TV.und, TV.und, TV.und, TV.und, TV.und, TV.und, TV.und, TV.und, TV.und, TV.und, TV.und, TV.und, TV.und, TV.und, TV.und, TV.und, TV.und, TV.und, TV.und, TV.und, TV.und, TV.und, TV.und, TV.und, TV.und, TV.und, TV.und, TV.und, TV.und, TV.und, TV.und, TV.und, TV.und, TV.und, TV.und, TV.und, TV.und, TV.und, TV.und, TV.und, TV.und] [])
def ref02_sign_L0 (R : TV → List Ob → Prop) (n : Int) (n1 : Int) : Prop := CutAt Tryz.prog (modeOf [] []) ref02_sign_lv Tryz.f40 none R [1, 1, 1, 0, 0, 1, 1] (ref02_sign_S0 n n1)
def ref02_sign_S1 (n : Int) (n1 : Int) : St := (St.mk [TV.und, TV.und, TV.und, TV.und, TV.und, TV.und, TV.und, (TV.one (AV.fz (FV.int .i64 n))), (TV.one (AV.fz (FV.int .i64 n1))), TV.und, TV.und, TV.und, TV.und, TV.und, TV.und, TV.und, TV.und, TV.und, TV.und, TV.und, TV.und, TV.und, TV.und, TV.und, TV.und, TV.und, TV.und, TV.und, TV.und, TV.und, TV.und, TV.und, TV.und, TV.und, TV.und, TV.und, TV.und, TV.und, TV.und, TV.und, TV.und, TV.und, TV.und, TV.und, TV.und, TV.und, TV.und, TV.und, TV.und, TV.und, TV.und, TV.und, TV.und, TV.und, TV.und, TV.und, TV.und, TV.und, TV.und, TV.und, TV.und, TV.und, TV.und, TV.und, TV.und, TV.und, TV.und, TV.und, TV.und, TV.und, TV.und, TV.und, TV.und, TV.und, TV.und, TV.und, TV.und, TV.und, TV.und, TV.und, TV.und, TV.und, TV.und, TV.und, TV.und, TV.und, TV.und, TV.und, TV.und, TV.und, TV.und, TV.und, TV.und, TV.und, TV.und, TV.und, TV.und, TV.und] [])
def ref02_sign_L1 (R : TV → List Ob → Prop) (n : Int) (n1 : Int) : Prop := CutAt Tryz.prog (modeOf [] []) ref02_sign_lv Tryz.f40 none R [1, 1, 1, 0, 0, 1, 1, 1, 1] (ref02_sign_S1 n n1)
def ref02_sign_S2 (n : Int) (n1 : Int) : St := (St.mk [TV.und, TV.und, TV.und, TV.und, TV.und, TV.und, TV.und, (TV.one (AV.fz (FV.int .i64 n))), (TV.one (AV.fz (FV.int .i64 n1))), TV.und, TV.und, TV.und, TV.und, TV.und, TV.und, TV.und, TV.und, TV.und, TV.und, TV.und, TV.und, TV.und, TV.und, TV.und, TV.und, TV.und, TV.und, TV.und, TV.und, TV.und, TV.und, TV.und, TV.und, TV.und, TV.und, TV.und, TV.und, TV.und, TV.und, TV.und, TV.und, TV.und, TV.und, TV.und, TV.und, TV.und, TV.und, TV.und, TV.und, TV.und, TV.und, TV.und, TV.und, TV.und, TV.und, TV.und, TV.und, TV.und, TV.und, TV.und, TV.und, TV.und, TV.und, TV.und, TV.und, TV.und, TV.und, TV.und, TV.und, TV.und, TV.und, TV.und, TV.und, TV.und, TV.und, TV.und, TV.und, TV.und, TV.und, TV.und, TV.und, TV.und, TV.und, TV.und, TV.und, TV.und, TV.und, TV.und, TV.und, TV.und, TV.und, TV.und, TV.und, TV.und, TV.und, TV.und, TV.und, TV.und] [])
def ref02_sign_L2 (R : TV → List Ob → Prop) (n : Int) (n1 : Int) : Prop := CutAt Tryz.prog (modeOf [] []) ref02_sign_lv Tryz.f40 none R [1, 1, 1, 0, 0, 1, 1, 1, 1, 1, 1] (ref02_sign_S2 n n1)
def ref02_sign_S3 (n : Int) (n1 : Int) : St := (St.mk [TV.und, TV.und, TV.und, TV.und, TV.und, TV.und, TV.und, (TV.one (AV.fz (FV.int .i64 n))), (TV.one (AV.fz (FV.int .i64 n1))), TV.und, TV.und, TV.und, TV.und, TV.und, TV.und, TV.und, TV.und, TV.und, TV.und, TV.und, TV.und, TV.und, TV.und, TV.und, TV.und, TV.und, TV.und, TV.und, TV.und, TV.und, TV.und, TV.und, TV.und, TV.und, TV.und, TV.und, TV.und, TV.und, TV.und, TV.und, TV.und, TV.und, TV.und, TV.und, TV.und, TV.und, TV.und, TV.und, TV.und, TV.und, TV.und, TV.und, TV.und, TV.und, TV.und, TV.und, TV.und, TV.und, TV.und, TV.und, TV.und, TV.und, TV.und, TV.und, TV.und, TV.und, TV.und, TV.und, TV.und, TV.und, TV.und, TV.und, TV.und, TV.und, TV.und, TV.und, TV.und, TV.und, TV.und, TV.und, TV.und, TV.und, TV.und, TV.und, TV.und, TV.und, TV.und, TV.und, TV.und, TV.und, TV.und, TV.und, TV.und, TV.und, TV.und, TV.und, TV.und, TV.und] [])
def ref02_sign_L3 (R : TV → List Ob → Prop) (n : Int) (n1 : Int) : Prop := CutAt Tryz.prog (modeOf [] []) ref02_sign_lv Tryz.f40 none R [1, 1, 1, 0, 0, 1, 1, 1, 1, 1, 1, 1, 1] (ref02_sign_S3 n n1)
def ref02_sign_S4 (n : Int) (n1 : Int) : St := (St.mk [TV.und, TV.und, TV.und, TV.und, TV.und, TV.und, TV.und, (TV.one (AV.fz (FV.int .i64 n))), (TV.one (AV.fz (FV.int .i64 n1))), TV.und, TV.und, TV.und, TV.und, TV.und, TV.und, TV.und, TV.und, TV.und, TV.und, TV.und, TV.und, TV.und, TV.und, TV.und, TV.und, TV.und, TV.und, TV.und, TV.und, TV.und, TV.und, TV.und, TV.und, TV.und, TV.und, TV.und, TV.und, TV.und, TV.und, TV.und, TV.und, TV.und, TV.und, TV.und, TV.und, TV.und, TV.und, TV.und, TV.und, TV.und, TV.und, TV.und, TV.und, TV.und, TV.und, TV.und, TV.und, TV.und, TV.und, TV.und, TV.und, TV.und, TV.und, TV.und, TV.und, TV.und, TV.und, TV.und, TV.und, TV.und, TV.und, TV.und, TV.und, TV.und, TV.und, TV.und, TV.und, TV.und, TV.und, TV.und, TV.und, TV.und, TV.und, TV.und, TV.und, TV.und, TV.und, TV.und, TV.und, TV.und, TV.und, TV.und, TV.und, TV.und, TV.und, TV.und, TV.und, TV.und] [])
def ref02_sign_L4 (R : TV → List Ob → Prop) (n : Int) (n1 : Int) : Prop := CutAt Tryz.prog (modeOf [] []) ref02_sign_lv Tryz.f40 none R [1, 1, 1, 0, 0, 1, 1, 1, 1, 1, 1, 1, 1, 1, 1] (ref02_sign_S4 n n1)
def ref02_sign_S5 (n : Int) (n1 : Int) : St := (St.mk [TV.und, TV.und, TV.und, TV.und, TV.und, TV.und, TV.und, (TV.one (AV.fz (FV.int .i64 n))), (TV.one (AV.fz (FV.int .i64 n1))), TV.und, TV.und, TV.und, TV.und, TV.und, TV.und, TV.und, TV.und, TV.und, TV.und, TV.und, TV.und, TV.und, TV.und, TV.und, TV.und, TV.und, TV.und, TV.und, TV.und, TV.und, TV.und, TV.und, TV.und, TV.und, TV.und, TV.und, TV.und, TV.und, TV.und, TV.und, TV.und, TV.und, TV.und, TV.und, TV.und, TV.und, TV.und, TV.und, TV.und, TV.und, TV.und, TV.und, TV.und, TV.und, TV.und, TV.und, TV.und, TV.und, TV.und, TV.und, TV.und, TV.und, TV.und, TV.und, TV.und, TV.und, TV.und, TV.und, TV.und, TV.und, TV.und, TV.und, TV.und, TV.und, TV.und, TV.und, TV.und, TV.und, TV.und, TV.und, TV.und, TV.und, TV.und, TV.und, TV.und, TV.und, TV.und, TV.und, TV.und, TV.und, TV.und, TV.und, TV.und, TV.und, TV.und, TV.und, TV.und, TV.und] [])
def ref02_sign_L5 (R : TV → List Ob → Prop) (n : Int) (n1 : Int) : Prop := CutAt Tryz.prog (modeOf [] []) ref02_sign_lv Tryz.f40 none R [1, 1, 1, 0, 0, 1, 1, 1, 1, 1, 1, 1, 1, 1, 1, 1, 1] (ref02_sign_S5 n n1)
def ref02_sign_S6 (n : Int) (n1 : Int) : St := (St.mk [TV.und, TV.und, TV.und, TV.und, TV.und, TV.und, TV.und, (TV.one (AV.fz (FV.int .i64 n))), (TV.one (AV.fz (FV.int .i64 n1))), TV.und, TV.und, TV.und, TV.und, TV.und, TV.und, TV.und, TV.und, TV.und, TV.und, TV.und, TV.und, TV.und, TV.und, TV.und, TV.und, TV.und, TV.und, TV.und, TV.und, TV.und, TV.und, TV.und, TV.und, TV.und, TV.und, TV.und, TV.und, TV.und, TV.und, TV.und, TV.und, TV.und, TV.und, TV.und, TV.und, TV.und, TV.und, TV.und, TV.und, TV.und, TV.und, TV.und, TV.und, TV.und, TV.und, TV.und, TV.und, TV.und, TV.und, TV.und, TV.und, TV.und, TV.und, TV.und, TV.und, TV.und, TV.und, TV.und, TV.und, TV.und, TV.und, TV.und, TV.und, TV.und, TV.und, TV.und, TV.und, TV.und, TV.und, TV.und, TV.und, TV.und, TV.und, TV.und, TV.und, TV.und, TV.und, TV.und, TV.und, TV.und, TV.und, TV.und, TV.und, TV.und, TV.und, TV.und, TV.und, TV.und] [])
def ref02_sign_L6 (R : TV → List Ob → Prop) (n : Int) (n1 : Int) : Prop := CutAt Tryz.prog (modeOf [] []) ref02_sign_lv Tryz.f40 none R [1, 1, 1, 0, 0, 1, 1, 1, 1, 1, 1, 1, 1, 1, 1, 1, 1, 1, 1] (ref02_sign_S6 n n1)
def ref02_sign_S7  : St := (St.mk [TV.und, TV.und, TV.und, TV.und, TV.und, TV.und, TV.und, TV.und, TV.und, TV.und, TV.und, TV.und, TV.und, TV.und, TV.und, TV.und, TV.und, TV.und, TV.und, TV.und, TV.und, TV.und, TV.und, TV.und, TV.und, TV.und, TV.und, TV.und, TV.und, TV.und, TV.und, TV.und, TV.und, TV.und, TV.und, TV.und, TV.und, TV.und, TV.und, TV.und, TV.und, TV.und, TV.und, TV.und, TV.und, TV.und, TV.und, TV.und, TV.und, TV.und, TV.und, TV.und, TV.und, TV.und, TV.und, TV.und, TV.und, TV.und, TV.und, TV.und, TV.und, TV.und, TV.und, TV.und, TV.und, TV.und, TV.und, TV.und, TV.und, TV.und, TV.und, TV.und, TV.und, TV.und, TV.und, TV.und, TV.und, TV.und, TV.und, TV.und, TV.und, TV.und, TV.und, TV.und, TV.und, TV.und, TV.und, TV.und, TV.und, TV.und, TV.und, TV.und, TV.und, TV.und, TV.und, TV.und, TV.und, TV.und] [])
def ref02_sign_L7 (R : TV → List Ob → Prop)  : Prop := CutAt Tryz.prog (modeOf [] []) ref02_sign_lv Tryz.f40 none R [1, 1, 1, 0, 0, 1, 1, 1, 1, 1, 1, 1, 1, 1, 1, 1, 1, 1, 1, 1, 1, 1, 1, 1, 1, 1, 1, 1, 1, 1, 1] (ref02_sign_S7 )
def ref02_sign_R0 (R : TV → List Ob → Prop) (n : Int) (n1 : Int) : Prop :=
  ((((n == 35) = true) → ((((n1 == 44) = true) → (R (TV.tup [(false, [(AV.fz (FV.int .i64 6))]), (false, [(AV.fz (FV.str (ByteArray.mk #[117, 110, 115, 121, 110, 116, 97, 120])))]), (false, [(AV.fz (FV.int .i64 2))])]) [])) ∧ (((n1 == 44) = false) → (ref02_sign_L1 R n n1)))) ∧ (((n == 35) = false) → (ref02_sign_L1 R n n1)))
theorem ref02_sign_l0 {R : TV → List Ob → Prop} {n : Int} {n1 : Int} (h : ref02_sign_R0 R n n1) : ref02_sign_L0 R n n1 :=
  CutAt.by_tr (by kernel_rfl) (by kernel_rfl) h
def ref02_sign_R1 (R : TV → List Ob → Prop) (n : Int) (n1 : Int) : Prop :=
  ((((n == 35) = true) → ((((n1 == 39) = true) → (R (TV.tup [(false, [(AV.fz (FV.int .i64 6))]), (false, [(AV.fz (FV.str (ByteArray.mk #[115, 121, 110, 116, 97, 120])))]), (false, [(AV.fz (FV.int .i64 2))])]) [])) ∧ (((n1 == 39) = false) → (ref02_sign_L2 R n n1)))) ∧ (((n == 35) = false) → (ref02_sign_L2 R n n1)))
theorem ref02_sign_l1 {R : TV → List Ob → Prop} {n : Int} {n1 : Int} (h : ref02_sign_R1 R n n1) : ref02_sign_L1 R n n1 :=
  CutAt.by_tr (by kernel_rfl) (by kernel_rfl) h
def ref02_sign_R2 (R : TV → List Ob → Prop) (n : Int) (n1 : Int) : Prop :=
  ((((n == 35) = true) → ((((n1 == 96) = true) → (R (TV.tup [(false, [(AV.fz (FV.int .i64 6))]), (false, [(AV.fz (FV.str (ByteArray.mk #[113, 117, 97, 115, 105, 115, 121, 110, 116, 97, 120])))]), (false, [(AV.fz (FV.int .i64 2))])]) [])) ∧ (((n1 == 96) = false) → (ref02_sign_L3 R n n1)))) ∧ (((n == 35) = false) → (ref02_sign_L3 R n n1)))
theorem ref02_sign_l2 {R : TV → List Ob → Prop} {n : Int} {n1 : Int} (h : ref02_sign_R2 R n n1) : ref02_sign_L2 R n n1 :=
  CutAt.by_tr (by kernel_rfl) (by kernel_rfl) h
def ref02_sign_R3 (R : TV → List Ob → Prop) (n : Int) (n1 : Int) : Prop :=
  ((((n == 35) = true) → ((((n1 == 59) = true) → (R (TV.tup [(false, [(AV.fz (FV.int .i64 5))]), (false, [(AV.fz (FV.str (ByteArray.mk #[])))]), (false, [(AV.fz (FV.int .i64 2))])]) [])) ∧ (((n1 == 59) = false) → (ref02_sign_L4 R n n1)))) ∧ (((n == 35) = false) → (ref02_sign_L4 R n n1)))
theorem ref02_sign_l3 {R : TV → List Ob → Prop} {n : Int} {n1 : Int} (h : ref02_sign_R3 R n n1) : ref02_sign_L3 R n n1 :=
  CutAt.by_tr (by kernel_rfl) (by kernel_rfl) h
def ref02_sign_R4 (R : TV → List Ob → Prop) (n : Int) (n1 : Int) : Prop :=
  ((((n == 35) = true) → ((((n1 == 40) = true) → (R (TV.tup [(false, [(AV.fz (FV.int .i64 3))]), (false, [(AV.fz (FV.str (ByteArray.mk #[])))]), (false, [(AV.fz (FV.int .i64 2))])]) [])) ∧ (((n1 == 40) = false) → (ref02_sign_L5 R n n1)))) ∧ (((n == 35) = false) → (ref02_sign_L5 R n n1)))
theorem ref02_sign_l4 {R : TV → List Ob → Prop} {n : Int} {n1 : Int} (h : ref02_sign_R4 R n n1) : ref02_sign_L4 R n n1 :=
  CutAt.by_tr (by kernel_rfl) (by kernel_rfl) h
def ref02_sign_R5 (R : TV → List Ob → Prop) (n : Int) (n1 : Int) : Prop :=
  ((((n == 44) = true) → ((((n1 == 64) = true) → (R (TV.tup [(false, [(AV.fz (FV.int .i64 6))]), (false, [(AV.fz (FV.str (ByteArray.mk #[117, 110, 113, 117, 111, 116, 101, 45, 115, 112, 108, 105, 99, 105, 110, 103])))]), (false, [(AV.fz (FV.int .i64 2))])]) [])) ∧ (((n1 == 64) = false) → (ref02_sign_L6 R n n1)))) ∧ (((n == 44) = false) → (ref02_sign_L6 R n n1)))
theorem ref02_sign_l5 {R : TV → List Ob → Prop} {n : Int} {n1 : Int} (h : ref02_sign_R5 R n n1) : ref02_sign_L5 R n n1 :=
  CutAt.by_tr (by kernel_rfl) (by kernel_rfl) h
def ref02_sign_R6 (R : TV → List Ob → Prop) (n : Int) (n1 : Int) : Prop :=
  ((((n == 44) = true) → (R (TV.tup [(false, [(AV.fz (FV.int .i64 6))]), (false, [(AV.fz (FV.str (ByteArray.mk #[117, 110, 113, 117, 111, 116, 101])))]), (false, [(AV.fz (FV.int .i64 1))])]) [])) ∧ (((n == 44) = false) → ((((n == 39) = true) → (R (TV.tup [(false, [(AV.fz (FV.int .i64 6))]), (false, [(AV.fz (FV.str (ByteArray.mk #[113, 117, 111, 116, 101])))]), (false, [(AV.fz (FV.int .i64 1))])]) [])) ∧ (((n == 39) = false) → ((((n == 96) = true) → (R (TV.tup [(false, [(AV.fz (FV.int .i64 6))]), (false, [(AV.fz (FV.str (ByteArray.mk #[113, 117, 97, 115, 105, 113, 117, 111, 116, 101])))]), (false, [(AV.fz (FV.int .i64 1))])]) [])) ∧ (((n == 96) = false) → ((((n == 40) = true) → (R (TV.tup [(false, [(AV.fz (FV.int .i64 1))]), (false, [(AV.fz (FV.str (ByteArray.mk #[])))]), (false, [(AV.fz (FV.int .i64 1))])]) [])) ∧ (((n == 40) = false) → ((((n == 41) = true) → (R (TV.tup [(false, [(AV.fz (FV.int .i64 2))]), (false, [(AV.fz (FV.str (ByteArray.mk #[])))]), (false, [(AV.fz (FV.int .i64 1))])]) [])) ∧ (((n == 41) = false) → ((((n == 46) = true) → ((((decide (n1 < 0)) = true) → (R (TV.tup [(false, [(AV.fz (FV.int .i64 4))]), (false, [(AV.fz (FV.str (ByteArray.mk #[])))]), (false, [(AV.fz (FV.int .i64 1))])]) [])) ∧ (((decide (n1 < 0)) = false) → (∃ b1 : Bool, ((Fn Tryz.prog 55 [(TV.one (AV.fz (FV.int .i64 n1)))] [] (TV.one (AV.fz (FV.bool b1))) []) ∧ (((b1 = true) → (R (TV.tup [(false, [(AV.fz (FV.int .i64 4))]), (false, [(AV.fz (FV.str (ByteArray.mk #[])))]), (false, [(AV.fz (FV.int .i64 1))])]) [])) ∧ ((b1 = false) → (ref02_sign_L7 R )))))))) ∧ (((n == 46) = false) → (ref02_sign_L7 R )))))))))))))
theorem ref02_sign_l6 {R : TV → List Ob → Prop} {n : Int} {n1 : Int} (h : ref02_sign_R6 R n n1) : ref02_sign_L6 R n n1 :=
  CutAt.by_tr (by kernel_rfl) (by kernel_rfl) h
def ref02_sign_R7 (R : TV → List Ob → Prop)  : Prop :=
  (R (TV.tup [(false, [(AV.fz (FV.int .i64 0))]), (false, [(AV.fz (FV.str (ByteArray.mk #[])))]), (false, [(AV.fz (FV.int .i64 0))])]) [])
theorem ref02_sign_l7 {R : TV → List Ob → Prop}  (h : ref02_sign_R7 R ) : ref02_sign_L7 R  :=
  CutAt.by_tr (by kernel_rfl) (by kernel_rfl) h
def ref02_sign_H (R : TV → List Ob → Prop) (t_ : List (List FV)) (i : Int) : Prop :=
  (∃ n3 : Int, ((Fn Tryz.prog 43 [(TV.one (AV.fz (FV.sl 1 t_))), (TV.one (AV.fz (FV.int .i64 i)))] [] (TV.one (AV.fz (FV.int .i64 n3))) []) ∧ (∃ n4 : Int, ((Fn Tryz.prog 43 [(TV.one (AV.fz (FV.sl 1 t_))), (TV.one (AV.fz (FV.int .i64 (IntKind.wrap .i64 (i + 1)))))] [] (TV.one (AV.fz (FV.int .i64 n4))) []) ∧ ((((n3 == 35) = true) → ((((n4 == 44) = true) → (∃ n5 : Int, ((Fn Tryz.prog 43 [(TV.one (AV.fz (FV.sl 1 t_))), (TV.one (AV.fz (FV.int .i64 (IntKind.wrap .i64 (i + 2)))))] [] (TV.one (AV.fz (FV.int .i64 n5))) []) ∧ ((((n5 == 64) = true) → (R (TV.tup [(false, [(AV.fz (FV.int .i64 6))]), (false, [(AV.fz (FV.str (ByteArray.mk #[117, 110, 115, 121, 110, 116, 97, 120, 45, 115, 112, 108, 105, 99, 105, 110, 103])))]), (false, [(AV.fz (FV.int .i64 3))])]) [])) ∧ (((n5 == 64) = false) → (ref02_sign_L0 R n3 n4)))))) ∧ (((n4 == 44) = false) → (ref02_sign_L0 R n3 n4)))) ∧ (((n3 == 35) = false) → (ref02_sign_L0 R n3 n4)))))))
theorem ref02_sign_fn (t_ : List (List FV)) (i : Int) {r : TV} {h : List Ob} (H : ref02_sign_H (fun r' h' => r' = r ∧ h' = h) t_ i) : Fn Tryz.prog 40 [(TV.one (AV.fz (FV.sl 1 t_))), (TV.one (AV.fz (FV.int .i64 i)))] [] r h :=
  Fn.by_tr (M := (modeOf [] [])) (lv := ref02_sign_lv) (own := none) (F := Tryz.f40) (by kernel_rfl) (by kernel_rfl) (by first | decide | simp) (fun _ _ h => h) (by kernel_rfl) H
def ref02_Scan_lv : List Nat → Keep := lvOf [([0, 1, 0, 1], ⟨33, 0, [], false, false⟩), ([0, 0, 1, 1, 1, 1], ⟨193, 0, [], false, false⟩), ([0, 0, 0, 1, 0, 1, 0, 1, 0, 0, 0, 1, 1, 1, 1], ⟨193, 0, [], false, false⟩)]
def ref02_Scan_S0 (t_ : List (List FV)) (i : Int) : St := (St.mk [(TV.one (AV.fz (FV.sl 1 t_))), TV.und, TV.und, TV.und, TV.und, (TV.one (AV.fz (FV.int .i64 i))), TV.und, TV.und, TV.und, TV.und, TV.und, TV.und, TV.und, TV.und, TV.und, TV.und, TV.und, TV.und, TV.und, TV.und, TV.und, TV.und, TV.und, TV.und, TV.und, TV.und, TV.und, TV.und, TV.und, TV.und, TV.und, TV.und, TV.und, TV.und, TV.und, TV.und, TV.und, TV.und, TV.und, TV.und, TV.und, TV.und, TV.und, TV.und, TV.und, TV.und, TV.und, TV.und, TV.und, TV.und, TV.und, TV.und, TV.und, TV.und, TV.und, TV.und, TV.und, TV.und, TV.und, TV.und, TV.und, TV.und, TV.und, TV.und, TV.und, TV.und, TV.und, TV.und, TV.und, TV.und, TV.und, TV.und, TV.und, TV.und, TV.und, TV.und, TV.und, TV.und, TV.und, TV.und, TV.und, TV.und, TV.und, TV.und, TV.und, TV.und, TV.und, TV.und, TV.und, TV.und, TV.und, TV.und, TV.und, TV.und, TV.und, TV.und, TV.und, TV.und, TV.und, TV.und, TV.und, TV.und, TV.und, TV.und, TV.und, TV.und, TV.und, TV.und, TV.und, TV.und, TV.und, TV.und, TV.und, TV.und, TV.und, TV.und, TV.und, TV.und, TV.und, TV.und, TV.und, TV.und, TV.und, TV.und, TV.und, TV.und, TV.und, TV.und, TV.und, TV.und, TV.und, TV.und, TV.und, TV.und, TV.und, TV.und, TV.und, TV.und, TV.und, TV.und, TV.und, TV.und, TV.und, TV.und, TV.und, TV.und, TV.und, TV.und, TV.und, TV.und, TV.und, TV.und, TV.und, TV.und, TV.und, TV.und, TV.und, TV.und, TV.und, TV.und, TV.und, TV.und, TV.und, TV.und, TV.und, TV.und, TV.und, TV.und, TV.und, TV.und, TV.und, TV.und, TV.und, TV.und, TV.und, TV.und] [])
def ref02_Scan_L0 (R : TV → List Ob → Prop) (t_ : List (List FV)) (i : Int) : Prop := LoopAt Tryz.prog (modeOf [] []) ref02_Scan_lv Tryz.f13 none R [1, 0, 1, 0] (ref02_Scan_S0 t_ i)
def ref02_Scan_S1 (t_ : List (List FV)) (i1 : Int) (o : List (List FV)) : St := (St.mk [(TV.one (AV.fz (FV.sl 1 t_))), TV.und, TV.und, TV.und, TV.und, TV.und, (TV.one (AV.ofl 9 0)), (TV.one (AV.fz (FV.int .i64 i1))), TV.und, TV.und, TV.und, TV.und, TV.und, TV.und, TV.und, TV.und, TV.und, TV.und, TV.und, TV.und, TV.und, TV.und, TV.und, TV.und, TV.und, TV.und, TV.und, TV.und, TV.und, TV.und, TV.und, TV.und, TV.und, TV.und, TV.und, TV.und, TV.und, TV.und, TV.und, TV.und, TV.und, TV.und, TV.und, TV.und, TV.und, TV.und, TV.und, TV.und, TV.und, TV.und, TV.und, TV.und, TV.und, TV.und, TV.und, TV.und, TV.und, TV.und, TV.und, TV.und, TV.und, TV.und, TV.und, TV.und, TV.und, TV.und, TV.und, TV.und, TV.und, TV.und, TV.und, TV.und, TV.und, TV.und, TV.und, TV.und, TV.und, TV.und, TV.und, TV.und, TV.und, TV.und, TV.und, TV.und, TV.und, TV.und, TV.und, TV.und, TV.und, TV.und, TV.und, TV.und, TV.und, TV.und, TV.und, TV.und, TV.und, TV.und, TV.und, TV.und, TV.und, TV.und, TV.und, TV.und, TV.und, TV.und, TV.und, TV.und, TV.und, TV.und, TV.und, TV.und, TV.und, TV.und, TV.und, TV.und, TV.und, TV.und, TV.und, TV.und, TV.und, TV.und, TV.und, TV.und, TV.und, TV.und, TV.und, TV.und, TV.und, TV.und, TV.und, TV.und, TV.und, TV.und, TV.und, TV.und, TV.und, TV.und, TV.und, TV.und, TV.und, TV.und, TV.und, TV.und, TV.und, TV.und, TV.und, TV.und, TV.und, TV.und, TV.und, TV.und, TV.und, TV.und, TV.und, TV.und, TV.und, TV.und, TV.und, TV.und, TV.und, TV.und, TV.und, TV.und, TV.und, TV.und, TV.und, TV.und, TV.und, TV.und, TV.und, TV.und, TV.und, TV.und, TV.und, TV.und] [(Ob.f 0 9 o)])
def ref02_Scan_L1 (R : TV → List Ob → Prop) (t_ : List (List FV)) (i1 : Int) (o : List (List FV)) : Prop := LoopAt Tryz.prog (modeOf [] []) ref02_Scan_lv Tryz.f13 none R [1, 1, 1, 1, 0, 0] (ref02_Scan_S1 t_ i1 o)
def ref02_Scan_S2 (t_ : List (List FV)) (i2 : Int) (o1 : List (List FV)) : St := (St.mk [(TV.one (AV.fz (FV.sl 1 t_))), TV.und, TV.und, TV.und, TV.und, TV.und, (TV.one (AV.ofl 9 0)), (TV.one (AV.fz (FV.int .i64 i2))), TV.und, TV.und, TV.und, TV.und, TV.und, TV.und, TV.und, TV.und, TV.und, TV.und, TV.und, TV.und, TV.und, TV.und, TV.und, TV.und, TV.und, TV.und, TV.und, TV.und, TV.und, TV.und, TV.und, TV.und, TV.und, TV.und, TV.und, TV.und, TV.und, TV.und, TV.und, TV.und, TV.und, TV.und, TV.und, TV.und, TV.und, TV.und, TV.und, TV.und, TV.und, TV.und, TV.und, TV.und, TV.und, TV.und, TV.und, TV.und, TV.und, TV.und, TV.und, TV.und, TV.und, TV.und, TV.und, TV.und, TV.und, TV.und, TV.und, TV.und, TV.und, TV.und, TV.und, TV.und, TV.und, TV.und, TV.und, TV.und, TV.und, TV.und, TV.und, TV.und, TV.und, TV.und, TV.und, TV.und, TV.und, TV.und, TV.und, TV.und, TV.und, TV.und, TV.und, TV.und, TV.und, TV.und, TV.und, TV.und, TV.und, TV.und, TV.und, TV.und, TV.und, TV.und, TV.und, TV.und, TV.und, TV.und, TV.und, TV.und, TV.und, TV.und, TV.und, TV.und, TV.und, TV.und, TV.und, TV.und, TV.und, TV.und, TV.und, TV.und, TV.und, TV.und, TV.und, TV.und, TV.und, TV.und, TV.und, TV.und, TV.und, TV.und, TV.und, TV.und, TV.und, TV.und, TV.und, TV.und, TV.und, TV.und, TV.und, TV.und, TV.und, TV.und, TV.und, TV.und, TV.und, TV.und, TV.und, TV.und, TV.und, TV.und, TV.und, TV.und, TV.und, TV.und, TV.und, TV.und, TV.und, TV.und, TV.und, TV.und, TV.und, TV.und, TV.und, TV.und, TV.und, TV.und, TV.und, TV.und, TV.und, TV.und, TV.und, TV.und, TV.und, TV.und, TV.und, TV.und] [(Ob.f 0 9 o1)])
def ref02_Scan_L2 (R : TV → List Ob → Prop) (t_ : List (List FV)) (i2 : Int) (o1 : List (List FV)) : Prop := LoopAt Tryz.prog (modeOf [] []) ref02_Scan_lv Tryz.f13 none R [1, 1, 1, 1, 0, 0, 0, 1, 0, 1, 0, 1, 0, 0, 0] (ref02_Scan_S2 t_ i2 o1)
def ref02_Scan_R0 (R : TV → List Ob → Prop) (t_ : List (List FV)) (i : Int) : Prop :=
  ((((decide (i < (((List.length t_) : Nat) : Int))) = true) → (((0 : Int) ≤ i) ∧ (∃ n57 : Int, (((t_)[(Int.toNat i)]? = (some [(FV.int .i64 n57)])) ∧ (∃ b20 : Bool, ((Fn Tryz.prog 38 [(TV.one (AV.fz (FV.int .i64 n57)))] [] (TV.one (AV.fz (FV.bool b20))) []) ∧ ((((Bool.not b20) = true) → (R (TV.tup [(false, [(AV.fz (FV.sl 9 ([] : List (List FV))))]), (false, [(AV.fz (FV.int .i64 i))]), (false, [(AV.fz (FV.int .i64 1))])]) [])) ∧ (((Bool.not b20) = false) → (ref02_Scan_L0 R t_ (IntKind.wrap .i64 (i + 1))))))))))) ∧ (((decide (i < (((List.length t_) : Nat) : Int))) = false) → (ref02_Scan_L1 R t_ 0 ([] : List (List FV)))))
theorem ref02_Scan_l0 {R : TV → List Ob → Prop} {t_ : List (List FV)} {i : Int} (h : ref02_Scan_R0 R t_ i) : ref02_Scan_L0 R t_ i :=
  LoopAt.by_tr (by kernel_rfl) (by kernel_rfl) h
def ref02_Scan_R1 (R : TV → List Ob → Prop) (t_ : List (List FV)) (i1 : Int) (o : List (List FV)) : Prop :=
  ((((decide (i1 < (((List.length t_) : Nat) : Int))) = true) → (((0 : Int) ≤ i1) ∧ (∃ n57 : Int, (((t_)[(Int.toNat i1)]? = (some [(FV.int .i64 n57)])) ∧ (∃ b20 : Bool, ((Fn Tryz.prog 39 [(TV.one (AV.fz (FV.int .i64 n57)))] [] (TV.one (AV.fz (FV.bool b20))) []) ∧ (((b20 = true) → (ref02_Scan_L1 R t_ (IntKind.wrap .i64 (i1 + 1)) o)) ∧ ((b20 = false) → (((0 : Int) ≤ i1) ∧ (∃ n58 : Int, (((t_)[(Int.toNat i1)]? = (some [(FV.int .i64 n58)])) ∧ ((((n58 == 59) = true) → (ref02_Scan_L2 R t_ i1 o)) ∧ (((n58 == 59) = false) → (∃ n59 : Int, (∃ s21 : ByteArray, (∃ n60 : Int, ((Fn Tryz.prog 40 [(TV.one (AV.fz (FV.sl 1 t_))), (TV.one (AV.fz (FV.int .i64 i1)))] [] (TV.tup [(false, [(AV.fz (FV.int .i64 n59))]), (false, [(AV.fz (FV.str s21))]), (false, [(AV.fz (FV.int .i64 n60))])]) []) ∧ ((((decide ((0 : Int) < n60)) = true) → (((((List.length o) + (List.length [[(FV.int .i64 n59), (FV.str s21), (FV.int .i64 0), (FV.str (ByteArray.mk #[])), (FV.bool false), (FV.sl 1 ([] : List (List FV))), (FV.sl 6 ([] : List (List FV))), (FV.int .i64 0), (FV.int .i64 i1)]])) * 120) ≤ 220000000000000) ∧ (ref02_Scan_L1 R t_ (IntKind.wrap .i64 (i1 + n60)) (o ++ [[(FV.int .i64 n59), (FV.str s21), (FV.int .i64 0), (FV.str (ByteArray.mk #[])), (FV.bool false), (FV.sl 1 ([] : List (List FV))), (FV.sl 6 ([] : List (List FV))), (FV.int .i64 0), (FV.int .i64 i1)]])))) ∧ (((decide ((0 : Int) < n60)) = false) → (((0 : Int) ≤ i1) ∧ (∃ n61 : Int, (((t_)[(Int.toNat i1)]? = (some [(FV.int .i64 n61)])) ∧ ((((n61 == 34) = true) → (∃ es18 : List (List FV), (∃ n62 : Int, ((Fn Tryz.prog 41 [(TV.one (AV.fz (FV.sl 1 t_))), (TV.one (AV.fz (FV.int .i64 (IntKind.wrap .i64 (i1 + 1)))))] [] (TV.tup [(false, [(AV.fz (FV.sl 1 es18))]), (false, [(AV.fz (FV.int .i64 n62))])]) []) ∧ ((((decide (n62 < 0)) = true) → (R (TV.tup [(false, [(AV.fz (FV.sl 9 ([] : List (List FV))))]), (false, [(AV.fz (FV.int .i64 i1))]), (false, [(AV.fz (FV.int .i64 3))])]) [])) ∧ (((decide (n62 < 0)) = false) → (∃ s22 : ByteArray, ((Fn Tryz.prog 42 [(TV.one (AV.fz (FV.sl 1 es18)))] [] (TV.one (AV.fz (FV.str s22))) []) ∧ (((((List.length o) + (List.length [[(FV.int .i64 7), (FV.str (ByteArray.mk #[])), (FV.int .i64 5), (FV.str s22), (FV.bool false), (FV.sl 1 ([] : List (List FV))), (FV.sl 6 ([] : List (List FV))), (FV.int .i64 i1), (FV.int .i64 i1)]])) * 120) ≤ 220000000000000) ∧ (ref02_Scan_L1 R t_ n62 (o ++ [[(FV.int .i64 7), (FV.str (ByteArray.mk #[])), (FV.int .i64 5), (FV.str s22), (FV.bool false), (FV.sl 1 ([] : List (List FV))), (FV.sl 6 ([] : List (List FV))), (FV.int .i64 i1), (FV.int .i64 i1)]]))))))))))) ∧ (((n61 == 34) = false) → (((0 : Int) ≤ i1) ∧ (∃ n63 : Int, (((t_)[(Int.toNat i1)]? = (some [(FV.int .i64 n63)])) ∧ ((((n63 == 35) = true) → (∃ n64 : Int, ((Fn Tryz.prog 43 [(TV.one (AV.fz (FV.sl 1 t_))), (TV.one (AV.fz (FV.int .i64 (IntKind.wrap .i64 (i1 + 1)))))] [] (TV.one (AV.fz (FV.int .i64 n64))) []) ∧ ((((n64 == 92) = true) → ((((decide ((((List.length t_) : Nat) : Int) ≤ (IntKind.wrap .i64 (i1 + 2)))) = true) → (R (TV.tup [(false, [(AV.fz (FV.sl 9 ([] : List (List FV))))]), (false, [(AV.fz (FV.int .i64 i1))]), (false, [(AV.fz (FV.int .i64 3))])]) [])) ∧ (((decide ((((List.length t_) : Nat) : Int) ≤ (IntKind.wrap .i64 (i1 + 2)))) = false) → (∃ n65 : Int, ((Fn Tryz.prog 44 [(TV.one (AV.fz (FV.sl 1 t_))), (TV.one (AV.fz (FV.int .i64 (IntKind.wrap .i64 (i1 + 3)))))] [] (TV.one (AV.fz (FV.int .i64 n65))) []) ∧ ((((0 : Int) ≤ (IntKind.wrap .i64 (i1 + 2))) ∧ (((IntKind.wrap .i64 (i1 + 2)) ≤ n65) ∧ (n65 ≤ (((List.length t_) : Nat) : Int)))) ∧ (∃ s23 : ByteArray, ((Fn Tryz.prog 42 [(TV.one (AV.fz (FV.sl 1 (List.drop (Int.toNat (IntKind.wrap .i64 (i1 + 2))) (List.take (Int.toNat n65) t_)))))] [] (TV.one (AV.fz (FV.str s23))) []) ∧ (∃ n66 : Int, (∃ b21 : Bool, ((Fn Tryz.prog 45 [(TV.one (AV.fz (FV.str s23)))] [] (TV.tup [(false, [(AV.fz (FV.int .i64 n66))]), (false, [(AV.fz (FV.bool b21))])]) []) ∧ ((((Bool.not b21) = true) → (R (TV.tup [(false, [(AV.fz (FV.sl 9 ([] : List (List FV))))]), (false, [(AV.fz (FV.int .i64 i1))]), (false, [(AV.fz (FV.int .i64 3))])]) [])) ∧ (((Bool.not b21) = false) → (∃ es19 : List (List FV), ((Fn Tryz.prog 46 [(TV.one (AV.fz (FV.int .i64 n66)))] [] (TV.one (AV.fz (FV.sl 1 es19))) []) ∧ (∃ ns3 : List Int, ((es19 = (List.map (fun n67 => [(FV.int .u8 n67)]) ns3)) ∧ (((((List.length o) + (List.length [[(FV.int .i64 7), (FV.str (ByteArray.mk #[])), (FV.int .i64 6), (FV.str (bytesOf ns3)), (FV.bool false), (FV.sl 1 ([] : List (List FV))), (FV.sl 6 ([] : List (List FV))), (FV.int .i64 i1), (FV.int .i64 i1)]])) * 120) ≤ 220000000000000) ∧ (ref02_Scan_L1 R t_ n65 (o ++ [[(FV.int .i64 7), (FV.str (ByteArray.mk #[])), (FV.int .i64 6), (FV.str (bytesOf ns3)), (FV.bool false), (FV.sl 1 ([] : List (List FV))), (FV.sl 6 ([] : List (List FV))), (FV.int .i64 i1), (FV.int .i64 i1)]])))))))))))))))))))) ∧ (((n64 == 92) = false) → (∃ n68 : Int, ((Fn Tryz.prog 44 [(TV.one (AV.fz (FV.sl 1 t_))), (TV.one (AV.fz (FV.int .i64 i1)))] [] (TV.one (AV.fz (FV.int .i64 n68))) []) ∧ ((((0 : Int) ≤ i1) ∧ ((i1 ≤ n68) ∧ (n68 ≤ (((List.length t_) : Nat) : Int)))) ∧ (∃ s24 : ByteArray, ((Fn Tryz.prog 42 [(TV.one (AV.fz (FV.sl 1 (List.drop (Int.toNat i1) (List.take (Int.toNat n68) t_)))))] [] (TV.one (AV.fz (FV.str s24))) []) ∧ (∃ n69 : Int, (∃ s25 : ByteArray, (∃ b22 : Bool, (∃ es20 : List (List FV), (∃ es21 : List (List FV), (∃ n70 : Int, (∃ b23 : Bool, ((Fn Tryz.prog 16 [(TV.one (AV.fz (FV.str s24)))] [] (TV.tup [(true, [(AV.fz (FV.int .i64 n69)), (AV.fz (FV.str s25)), (AV.fz (FV.bool b22)), (AV.fz (FV.sl 1 es20)), (AV.fz (FV.sl 6 es21)), (AV.fz (FV.int .i64 n70))]), (false, [(AV.fz (FV.bool b23))])]) []) ∧ ((((Bool.not b23) = true) → (R (TV.tup [(false, [(AV.fz (FV.sl 9 ([] : List (List FV))))]), (false, [(AV.fz (FV.int .i64 i1))]), (false, [(AV.fz (FV.int .i64 3))])]) [])) ∧ (((Bool.not b23) = false) → (((((List.length o) + (List.length [[(FV.int .i64 7), (FV.str (ByteArray.mk #[])), (FV.int .i64 n69), (FV.str s25), (FV.bool b22), (FV.sl 1 es20), (FV.sl 6 es21), (FV.int .i64 i1), (FV.int .i64 i1)]])) * 120) ≤ 220000000000000) ∧ (ref02_Scan_L1 R t_ n68 (o ++ [[(FV.int .i64 7), (FV.str (ByteArray.mk #[])), (FV.int .i64 n69), (FV.str s25), (FV.bool b22), (FV.sl 1 es20), (FV.sl 6 es21), (FV.int .i64 i1), (FV.int .i64 i1)]]))))))))))))))))))))))) ∧ (((n63 == 35) = false) → (∃ n71 : Int, ((Fn Tryz.prog 44 [(TV.one (AV.fz (FV.sl 1 t_))), (TV.one (AV.fz (FV.int .i64 i1)))] [] (TV.one (AV.fz (FV.int .i64 n71))) []) ∧ ((((0 : Int) ≤ i1) ∧ ((i1 ≤ n71) ∧ (n71 ≤ (((List.length t_) : Nat) : Int)))) ∧ (∃ s26 : ByteArray, ((Fn Tryz.prog 42 [(TV.one (AV.fz (FV.sl 1 (List.drop (Int.toNat i1) (List.take (Int.toNat n71) t_)))))] [] (TV.one (AV.fz (FV.str s26))) []) ∧ (∃ n72 : Int, (∃ s27 : ByteArray, (∃ b24 : Bool, (∃ es22 : List (List FV), (∃ es23 : List (List FV), (∃ n73 : Int, (∃ b25 : Bool, ((Fn Tryz.prog 16 [(TV.one (AV.fz (FV.str s26)))] [] (TV.tup [(true, [(AV.fz (FV.int .i64 n72)), (AV.fz (FV.str s27)), (AV.fz (FV.bool b24)), (AV.fz (FV.sl 1 es22)), (AV.fz (FV.sl 6 es23)), (AV.fz (FV.int .i64 n73))]), (false, [(AV.fz (FV.bool b25))])]) []) ∧ ((((Bool.not b25) = true) → (R (TV.tup [(false, [(AV.fz (FV.sl 9 ([] : List (List FV))))]), (false, [(AV.fz (FV.int .i64 i1))]), (false, [(AV.fz (FV.int .i64 3))])]) [])) ∧ (((Bool.not b25) = false) → (((((List.length o) + (List.length [[(FV.int .i64 7), (FV.str (ByteArray.mk #[])), (FV.int .i64 n72), (FV.str s27), (FV.bool b24), (FV.sl 1 es22), (FV.sl 6 es23), (FV.int .i64 i1), (FV.int .i64 i1)]])) * 120) ≤ 220000000000000) ∧ (ref02_Scan_L1 R t_ n71 (o ++ [[(FV.int .i64 7), (FV.str (ByteArray.mk #[])), (FV.int .i64 n72), (FV.str s27), (FV.bool b24), (FV.sl 1 es22), (FV.sl 6 es23), (FV.int .i64 i1), (FV.int .i64 i1)]]))))))))))))))))))))))))))))))))))))))))))))))) ∧ (((decide (i1 < (((List.length t_) : Nat) : Int))) = false) → (R (TV.tup [(false, [(AV.fz (FV.sl 9 o))]), (false, [(AV.fz (FV.int .i64 0))]), (false, [(AV.fz (FV.int .i64 0))])]) [])))
theorem ref02_Scan_l1 {R : TV → List Ob → Prop} {t_ : List (List FV)} {i1 : Int} {o : List (List FV)} (h : ref02_Scan_R1 R t_ i1 o) : ref02_Scan_L1 R t_ i1 o :=
  LoopAt.by_tr (by kernel_rfl) (by kernel_rfl) h
def ref02_Scan_R2 (R : TV → List Ob → Prop) (t_ : List (List FV)) (i2 : Int) (o1 : List (List FV)) : Prop :=
  ((((decide (i2 < (((List.length t_) : Nat) : Int))) = true) → (((0 : Int) ≤ i2) ∧ (∃ n57 : Int, (((t_)[(Int.toNat i2)]? = (some [(FV.int .i64 n57)])) ∧ ((((n57 != 10) = true) → (ref02_Scan_L2 R t_ (IntKind.wrap .i64 (i2 + 1)) o1)) ∧ (((n57 != 10) = false) → (ref02_Scan_L1 R t_ i2 o1))))))) ∧ (((decide (i2 < (((List.length t_) : Nat) : Int))) = false) → (ref02_Scan_L1 R t_ i2 o1)))
theorem ref02_Scan_l2 {R : TV → List Ob → Prop} {t_ : List (List FV)} {i2 : Int} {o1 : List (List FV)} (h : ref02_Scan_R2 R t_ i2 o1) : ref02_Scan_L2 R t_ i2 o1 :=
  LoopAt.by_tr (by kernel_rfl) (by kernel_rfl) h
def ref02_Scan_H (R : TV → List Ob → Prop) (t_ : List (List FV)) : Prop :=
  (ref02_Scan_L0 R t_ 0)
theorem ref02_Scan_fn (t_ : List (List FV)) {r : TV} {h : List Ob} (H : ref02_Scan_H (fun r' h' => r' = r ∧ h' = h) t_) : Fn Tryz.prog 13 [(TV.one (AV.fz (FV.sl 1 t_)))] [] r h :=
  Fn.by_tr (M := (modeOf [] [])) (lv := ref02_Scan_lv) (own := none) (F := Tryz.f13) (by kernel_rfl) (by kernel_rfl) (by first | decide | simp) (fun _ _ h => h) (by kernel_rfl) H
end Go.Proofs.YtejefchehdifhaaGreatDoor.Ev
end
section
set_option linter.unusedVariables false
set_option linter.unusedSimpArgs false
namespace Go.Proofs.YtejefchehdifhaaGreatDoor.Ev
open Go
def pkL (l : List Int) (i : Nat) : Int := if i < l.length then rd l i else -1
theorem pkL_drop (t : List Int) (p i : Nat) : pkL (t.drop p) i = pkL t (p + i) := by
  unfold pkL
  rw [rd_dropN, List.length_drop]
  by_cases h : p + i < t.length
  · rw [if_pos (by omega), if_pos h]
  · rw [if_neg (by omega), if_neg h]
def untilN : List Int → Nat
  | [] => 0
  | c :: r => if endsB c = true then 0 else untilN r + 1
theorem untilN_le : ∀ l : List Int, untilN l ≤ l.length
  | [] => Nat.le_refl _
  | c :: r => by
    have := untilN_le r
    unfold untilN
    split <;> simp <;> omega
def blC : Bool → List Int → Nat
  | _, [] => 0
  | true, c :: r => if c = 10 then blC false r + 1 else blC true r + 1
  | false, c :: r => if blankB c = true then blC false r + 1 else if c = 59 then blC true r + 1 else 0
theorem blC_le : ∀ (b : Bool) (l : List Int), blC b l ≤ l.length
  | b, [] => by cases b <;> exact Nat.le_refl _
  | true, c :: r => by
    have h1 := blC_le false r
    have h2 := blC_le true r
    unfold blC
    split <;> simp <;> omega
  | false, c :: r => by
    have h1 := blC_le false r
    have h2 := blC_le true r
    unfold blC
    split
    · simp; omega
    · split <;> simp; omega
def semN : Nat → List Int → Nat
  | 0, _ => 0
  | _ + 1, [] => 0
  | n + 1, c :: r => if c = 59 then 0 else semN n r + 1
theorem semN_le : ∀ (n : Nat) (l : List Int), semN n l ≤ n ∧ semN n l ≤ l.length
  | 0, l => ⟨Nat.le_refl _, Nat.zero_le _⟩
  | n + 1, [] => ⟨Nat.zero_le _, Nat.le_refl _⟩
  | n + 1, c :: r => by
    have := semN_le n r
    unfold semN
    split <;> simp <;> omega
def hexD (c : Int) : Int := if 48 ≤ c ∧ c ≤ 57 then c - 48 else if 97 ≤ c ∧ c ≤ 102 then c - 87 else if 65 ≤ c ∧ c ≤ 70 then c - 55 else -1
def hexR : List Int → Int → Int
  | [], n => if scalB n = true then n else -1
  | c :: r, n => if hexD c < 0 then -1 else hexR r (n * 16 + hexD c)
def hexV (T : List Int) : Int := if 1 ≤ T.length ∧ T.length ≤ 6 then hexR T 0 else -1
def namedV (T : List Int) : Int :=
  if T = [115, 112, 97, 99, 101] then 32 else if T = [110, 101, 119, 108, 105, 110, 101] then 10 else if T = [116, 97, 98] then 9 else if T = [114, 101, 116, 117, 114, 110] then 13
  else if T = [110, 117, 108, 108] then 0 else if T = [100, 101, 108, 101, 116, 101] then 127
  else if (chars T).2 = -1 ∧ (chars T).1.length = 1 then rd (chars T).1 0
  else if 2 ≤ T.length ∧ rd T 0 = 120 then hexV (T.drop 1) else -1
theorem hexR_scal : ∀ (l : List Int) (n : Int), hexR l n = -1 ∨ scalB (hexR l n) = true
  | [], n => by
    unfold hexR
    split
    · exact .inr ‹_›
    · exact .inl rfl
  | c :: r, n => by
    unfold hexR
    split
    · exact .inl rfl
    · exact hexR_scal r _
theorem hexV_scal (T : List Int) : hexV T = -1 ∨ scalB (hexV T) = true := by
  unfold hexV
  split
  · exact hexR_scal _ _
  · exact .inl rfl
theorem rAt_ok (t : List Int) (i : Nat) : Fn Tryz.prog 43 [fzS .i64 t, fzI .i64 i] [] (fzI .i64 (pkL t i)) [] := by
  refine ref02_at_fn _ _ ?_
  obtain ⟨R, hR, hRe⟩ := exR (fzI .i64 (pkL t i)); rw [hRe]; clear hRe
  unfold ref02_at_H
  simp only [dec_t, dec_f, ints_len, Int.toNat_natCast]
  refine ⟨fun h => absurd h (by omega), fun _ => ⟨fun h => ?_, fun h => ⟨by omega, rd t i, by simp [ints, some_rd (show i < t.length by omega)], ?_⟩⟩⟩
  · have : pkL t i = -1 := by unfold pkL; rw [if_neg (by omega)]
    rw [this] at hR; exact hR
  · have : pkL t i = rd t i := by unfold pkL; rw [if_pos (by omega)]
    rw [this] at hR; exact hR
theorem until_loop (t : List Int) (hlen : t.length ≤ 140737488355328) (R : TV → List Ob → Prop) : ∀ (m i : Nat), t.length - i = m → i ≤ t.length → R (fzI .i64 ((i + untilN (t.drop i) : Nat) : Int)) [] → ref02_until_L0 R (ints .i64 t) i := by
  intro m
  induction m with
  | zero =>
    intro i hi hle hR
    refine ref02_until_l0 ?_
    unfold ref02_until_R0
    simp only [dec_t, dec_f, ints_len]
    refine ⟨fun a => absurd a (by omega), fun _ => ?_⟩
    rw [List.drop_eq_nil_of_le (by omega)] at hR
    exact hR
  | succ m ih =>
    intro i hi hle hR
    refine ref02_until_l0 ?_
    unfold ref02_until_R0
    simp only [dec_t, dec_f, ints_len, Int.toNat_natCast]
    have hlt : i < t.length := by omega
    refine ⟨fun _ => ⟨by omega, rd t i, by simp [ints, some_rd hlt], endsB (rd t i), rEnds_ok _, ?_⟩, fun a => absurd a (by omega)⟩
    rw [drop_rd' t i hlt] at hR
    unfold untilN at hR
    cases he : endsB (rd t i) with
    | true =>
      rw [he, if_pos rfl] at hR
      simp only [Bool.not_true, Bool.false_eq_true, false_implies, true_and, forall_const]
      exact hR
    | false =>
      rw [he, if_neg (by simp)] at hR
      simp only [Bool.not_false, forall_const, Bool.true_eq_false, false_implies, and_true]
      rw [w64 (by omega) (by omega)]
      refine ih (i + 1) (by omega) (by omega) ?_
      rw [show i + 1 + untilN (t.drop (i + 1)) = i + (untilN (t.drop (i + 1)) + 1) by omega]
      exact hR
theorem rUntil_ok (t : List Int) (hlen : t.length ≤ 140737488355328) (i : Nat) (hi : i ≤ t.length) : Fn Tryz.prog 44 [fzS .i64 t, fzI .i64 i] [] (fzI .i64 ((i + untilN (t.drop i) : Nat) : Int)) [] := by
  refine ref02_until_fn _ _ ?_
  obtain ⟨R, hR, hRe⟩ := exR (fzI .i64 ((i + untilN (t.drop i) : Nat) : Int)); rw [hRe]; clear hRe
  unfold ref02_until_H
  exact until_loop t hlen R _ i rfl hi hR
theorem rencode_loop (l : List Int) (hs : Scals l) (hlen : l.length ≤ 50000000000) (R : TV → List Ob → Prop) (hR : R (.tup [(false, [.fz (.sl 1 (ints .u8 (enc l)))]), (false, [.fz (.int .i64 0)])]) []) :
    ∀ (m i : Nat), l.length - i = m → i ≤ l.length → ref02_Encode_L0 R (ints .i64 l) i (ints .u8 (enc (l.take i))) := by
  intro m
  induction m with
  | zero =>
    intro i hi hle
    refine ref02_Encode_l0 ?_
    unfold ref02_Encode_R0
    simp only [dec_t, dec_f, ints_len]
    refine ⟨fun a => absurd a (by omega), fun _ => ?_⟩
    rw [show i = l.length by omega, List.take_length]
    exact hR
  | succ m ih =>
    intro i hi hle
    refine ref02_Encode_l0 ?_
    unfold ref02_Encode_R0
    simp only [dec_t, dec_f, ints_len, Int.toNat_natCast]
    have hlt : i < l.length := by omega
    have hc : scalB (rd l i) = true := hs _ (by rw [rd_at l i hlt]; exact List.getElem_mem hlt)
    have hi' : (ints .i64 l)[i]? = some [FV.int .i64 (rd l i)] := by simp [ints, some_rd hlt]
    refine ⟨fun _ => ⟨by omega, rd l i, hi', true, ?_, ?_⟩, fun a => absurd a (by omega)⟩
    · have := rScalar_ok (rd l i); rw [hc] at this; exact this
    · simp only [Bool.not_true, Bool.false_eq_true, false_implies, true_and, forall_const]
      have hel := enc_len (l.take i)
      have htl : (l.take i).length ≤ l.length := by simp; omega
      have hu := utfB_le (rd l i)
      refine ⟨by omega, rd l i, hi', ints .u8 (utfB (rd l i)), rBytes_ok _ hc, by rw [ints_len]; omega, ?_⟩
      rw [w64 (by omega) (by omega), ints_app]
      have := ih (i + 1) (by omega) (by omega)
      have ht : l.take (i + 1) = l.take i ++ [rd l i] := by rw [List.take_add_one, some_rd hlt]; rfl
      rw [ht, enc_app, show enc [rd l i] = utfB (rd l i) by simp [enc]] at this
      exact this
theorem rEncode_ok (l : List Int) (hs : Scals l) (hlen : l.length ≤ 50000000000) : Fn Tryz.prog 81 [fzS .i64 l] [] (.tup [(false, [.fz (.sl 1 (ints .u8 (enc l)))]), (false, [.fz (.int .i64 0)])]) [] := by
  refine ref02_Encode_fn _ ?_
  obtain ⟨R, hR, hRe⟩ := exR (.tup [(false, [.fz (.sl 1 (ints .u8 (enc l)))]), (false, [.fz (.int .i64 0)])]); rw [hRe]; clear hRe
  unfold ref02_Encode_H
  exact rencode_loop l hs hlen R hR _ 0 rfl (Nat.zero_le _)
theorem rStr_ok (l : List Int) (hs : Scals l) (hlen : l.length ≤ 50000000000) : Fn Tryz.prog 42 [fzS .i64 l] [] (.one (.fz (.str (bytesOf (enc l))))) [] := by
  refine ref02_Str_fn _ ?_
  unfold ref02_Str_H
  exact ⟨_, _, rEncode_ok l hs hlen, enc l, rfl, rfl, rfl⟩
theorem rhex_loop (T : List Int) (hT : Bytes T) (hlen : T.length ≤ 6) (R : TV → List Ob → Prop) : ∀ (m i : Nat) (n : Int), T.length - i = m → i ≤ T.length → 0 ≤ n → n < 16 ^ i → R (fzI .i64 (hexR (T.drop i) n)) [] → ref02_Hex_L0 R (bytesOf T) n i := by
  have p6 : (16 : Int) ^ 6 = 16777216 := by decide
  have hp : ∀ i : Nat, i ≤ 6 → (16 : Int) ^ i ≤ 16777216 := fun i hi => by rw [← p6]; exact pow_mono (by omega) hi
  intro m
  induction m with
  | zero =>
    intro i n hi hle h0 h1 hR
    refine ref02_Hex_l0 ?_
    unfold ref02_Hex_R0
    simp only [dec_t, dec_f, size_of]
    refine ⟨fun a => absurd a (by omega), fun _ => ⟨scalB n, rScalar_ok n, ?_⟩⟩
    rw [List.drop_eq_nil_of_le (by omega)] at hR
    unfold hexR at hR
    cases hs : scalB n with
    | true =>
      rw [hs, if_pos rfl] at hR
      simpa using hR
    | false =>
      rw [hs, if_neg (by simp)] at hR
      simpa using hR
  | succ m ih =>
    intro i n hi hle h0 h1 hR
    refine ref02_Hex_l0 ?_
    unfold ref02_Hex_R0
    have hlt : i < T.length := by omega
    obtain ⟨c, hc, hcv⟩ := byte_at hT hlt
    have hb := hT.rd (by omega) i
    have hpi := hp i (by omega)
    have hp1 : (16 : Int) ^ (i + 1) = 16 ^ i * 16 := Int.pow_succ 16 i
    rw [drop_rd' T i hlt] at hR
    unfold hexR at hR
    have step : ∀ d : Int, hexD (rd T i) = d → 0 ≤ d → d < 16 → ∀ x : Int, x = n * 16 + d → ref02_Hex_L0 R (bytesOf T) x (IntKind.wrap .i64 ((i : Int) + 1)) := by
      intro d hd hd0 hd1 x hx
      rw [hd, if_neg (by omega)] at hR
      rw [hx, w64 (by omega) (by omega)]
      have := ih (i + 1) (n * 16 + d) (by omega) (by omega) (by omega) (by rw [hp1]; omega) hR
      simpa using this
    have bad : hexD (rd T i) = -1 → R (fzI .i64 (-1)) [] := by
      intro hd
      rw [hd, if_pos (by omega)] at hR
      exact hR
    simp only [dec_t, dec_f, size_of, Int.toNat_natCast]
    refine ⟨fun _ => ⟨by omega, c, hc, ?_⟩, fun a => absurd a (by omega)⟩
    rw [hcv, w64 (n := rd T i) (by omega) (by omega), w64 (n := n * 16) (by omega) (by omega), w64 (n := n * 16 + rd T i) (by omega) (by omega)]
    rw [w64 (n := n * 16 + rd T i - 97) (by omega) (by omega), w64 (n := n * 16 + rd T i - 65) (by omega) (by omega), w64 (n := n * 16 + rd T i - 48) (by omega) (by omega), w64 (n := n * 16 + rd T i - 97 + 10) (by omega) (by omega), w64 (n := n * 16 + rd T i - 65 + 10) (by omega) (by omega)]
    have dig : 48 ≤ rd T i → rd T i ≤ 57 → ref02_Hex_L0 R (bytesOf T) (n * 16 + rd T i - 48) (IntKind.wrap .i64 ((i : Int) + 1)) := fun a b => step (rd T i - 48) (by unfold hexD; rw [if_pos ⟨a, b⟩]) (by omega) (by omega) _ (by omega)
    have low : 97 ≤ rd T i → rd T i ≤ 102 → ref02_Hex_L0 R (bytesOf T) (n * 16 + rd T i - 97 + 10) (IntKind.wrap .i64 ((i : Int) + 1)) := fun a b => step (rd T i - 87) (by unfold hexD; rw [if_neg (by omega), if_pos ⟨a, b⟩]) (by omega) (by omega) _ (by omega)
    have upp : 65 ≤ rd T i → rd T i ≤ 70 → ref02_Hex_L0 R (bytesOf T) (n * 16 + rd T i - 65 + 10) (IntKind.wrap .i64 ((i : Int) + 1)) := fun a b => step (rd T i - 55) (by unfold hexD; rw [if_neg (by omega), if_neg (by omega), if_pos ⟨a, b⟩]) (by omega) (by omega) _ (by omega)
    have nob : ¬ (48 ≤ rd T i ∧ rd T i ≤ 57) → ¬ (97 ≤ rd T i ∧ rd T i ≤ 102) → ¬ (65 ≤ rd T i ∧ rd T i ≤ 70) → R (fzI .i64 (-1)) [] := fun a b d => bad (by unfold hexD; rw [if_neg a, if_neg b, if_neg d])
    refine ⟨fun a => ⟨fun b => dig a b, fun b => ⟨fun d => ⟨fun e => low d e, fun e => ⟨fun f => ⟨fun g => upp f g, fun g => nob (by omega) (by omega) (by omega)⟩, fun f => nob (by omega) (by omega) (by omega)⟩⟩, fun d => ⟨fun f => ⟨fun g => upp f g, fun g => nob (by omega) (by omega) (by omega)⟩, fun f => nob (by omega) (by omega) (by omega)⟩⟩⟩,
      fun a => ⟨fun d => ⟨fun e => low d e, fun e => ⟨fun f => ⟨fun g => upp f g, fun g => nob (by omega) (by omega) (by omega)⟩, fun f => nob (by omega) (by omega) (by omega)⟩⟩, fun d => ⟨fun f => ⟨fun g => upp f g, fun g => nob (by omega) (by omega) (by omega)⟩, fun f => nob (by omega) (by omega) (by omega)⟩⟩⟩
theorem rHex_ok (T : List Int) (hT : Bytes T) (hlen : T.length ≤ 140737488355328) : Fn Tryz.prog 80 [.one (.fz (.str (bytesOf T)))] [] (fzI .i64 (hexV T)) [] := by
  refine ref02_Hex_fn _ ?_
  obtain ⟨R, hR, hRe⟩ := exR (fzI .i64 (hexV T)); rw [hRe]; clear hRe
  unfold hexV at hR
  unfold ref02_Hex_H
  simp only [dec_t, dec_f, size_of]
  refine ⟨fun a => ?_, fun a => ⟨fun b => ?_, fun b => ?_⟩⟩
  · rw [if_neg (by omega)] at hR; exact hR
  · rw [if_neg (by omega)] at hR; exact hR
  · rw [if_pos (by omega)] at hR
    exact rhex_loop T hT (by omega) R _ 0 0 rfl (Nat.zero_le _) (by omega) (by simp) hR
end Go.Proofs.YtejefchehdifhaaGreatDoor.Ev
end
section
set_option linter.unusedVariables false
set_option linter.unusedSimpArgs false
namespace Go.Proofs.YtejefchehdifhaaGreatDoor.Ev
open Go
theorem semN_spec : ∀ (n : Nat) (l : List Int), (∀ j, j < semN n l → rd l j ≠ 59) ∧ (semN n l = n ∨ semN n l = l.length ∨ rd l (semN n l) = 59)
  | 0, l => ⟨fun j hj => absurd hj (Nat.not_lt_zero j), .inl rfl⟩
  | n + 1, [] => ⟨fun j hj => absurd hj (Nat.not_lt_zero j), .inr (.inl rfl)⟩
  | n + 1, c :: r => by
    obtain ⟨h1, h2⟩ := semN_spec n r
    have key : semN (n + 1) (c :: r) = if c = 59 then 0 else semN n r + 1 := rfl
    rw [key]
    by_cases hc : c = 59
    · rw [if_pos hc]
      exact ⟨fun j hj => absurd hj (Nat.not_lt_zero j), .inr (.inr hc)⟩
    · rw [if_neg hc]
      refine ⟨fun j hj => ?_, ?_⟩
      · cases j with
        | zero => exact hc
        | succ j => exact h1 j (by omega)
      · rcases h2 with h2 | h2 | h2
        · exact .inl (by omega)
        · exact .inr (.inl (by simp; omega))
        · exact .inr (.inr h2)
def escV (r : List Int) : Int × Nat :=
  let c := pkL r 0
  if c = 110 then (10, 1) else if c = 116 then (9, 1) else if c = 114 then (13, 1) else if c = 92 then (92, 1) else if c = 34 then (34, 1)
  else if c = 120 then (if pkL (r.drop 1) (semN 7 (r.drop 1)) = 59 then (hexV (enc ((r.drop 1).take (semN 7 (r.drop 1)))), semN 7 (r.drop 1) + 2) else (-1, 0)) else (-1, 0)
def strF : Nat → List Int → List Int → Nat → Option (List Int × Nat)
  | 0, _, _, _ => none
  | _ + 1, [], _, _ => none
  | f + 1, c :: r, acc, k => if c = 34 then some (acc, k + 1) else if c ≠ 92 then strF f r (acc ++ [c]) (k + 1) else if (escV r).1 < 0 then none else strF f (r.drop (escV r).2) (acc ++ [(escV r).1]) (k + 1 + (escV r).2)
def strZ (p : Option (List Int × Nat)) : List Int × Int :=
  match p with
  | some (a, e) => if 4096 < a.length then ([], -1) else (a, (e : Int))
  | none => ([], -1)
abbrev strT (p : List Int × Int) : TV := .tup [(false, [.fz (.sl 1 (ints .i64 p.1))]), (false, [.fz (.int .i64 p.2)])]
theorem Scals.drop {l : List Int} (h : Scals l) (n : Nat) : Scals (l.drop n) := fun c hc => h c (List.mem_of_mem_drop hc)
theorem Scals.take {l : List Int} (h : Scals l) (n : Nat) : Scals (l.take n) := fun c hc => h c (List.mem_of_mem_take hc)
theorem Scals.rd {l : List Int} (h : Scals l) {i : Nat} (hi : i < l.length) : scalB (rd l i) = true := h _ (by rw [rd_at l i hi]; exact List.getElem_mem hi)
theorem text_hex (t : List Int) (hs : Scals t) (hlen : t.length ≤ 2000000000) (i2 : Nat) (hi2 : i2 + 2 ≤ t.length) (o1 : List Int) (ho : o1.length ≤ 2000000000) (R : TV → List Ob → Prop) (hbad : ¬ (pkL (t.drop (i2 + 2)) (semN 7 (t.drop (i2 + 2))) = 59 ∧ 0 ≤ hexV (enc ((t.drop (i2 + 2)).take (semN 7 (t.drop (i2 + 2)))))) → R (strT ([], -1)) [])
    (hgo : pkL (t.drop (i2 + 2)) (semN 7 (t.drop (i2 + 2))) = 59 → 0 ≤ hexV (enc ((t.drop (i2 + 2)).take (semN 7 (t.drop (i2 + 2))))) →
      ref02_text_L0 R (ints .i64 t) ((i2 + 2 + semN 7 (t.drop (i2 + 2)) + 1 : Nat) : Int) (ints .i64 (o1 ++ [hexV (enc ((t.drop (i2 + 2)).take (semN 7 (t.drop (i2 + 2)))))])) ) :
    ∀ (m j : Nat), semN 7 (t.drop (i2 + 2)) - j = m → j ≤ semN 7 (t.drop (i2 + 2)) → ref02_text_L1 R (ints .i64 t) i2 ((i2 + 2 + j : Nat) : Int) (ints .i64 o1) := by
  obtain ⟨s1, s2⟩ := semN_spec 7 (t.drop (i2 + 2))
  obtain ⟨l1, l2⟩ := semN_le 7 (t.drop (i2 + 2))
  have hql : (t.drop (i2 + 2)).length = t.length - (i2 + 2) := List.length_drop
  generalize hsn : semN 7 (t.drop (i2 + 2)) = s at *
  have fin : ref02_text_L1 R (ints .i64 t) i2 ((i2 + 2 + s : Nat) : Int) (ints .i64 o1) := by
    have hpk : pkL t (i2 + 2 + s) = pkL (t.drop (i2 + 2)) s := (pkL_drop t (i2 + 2) s).symm
    have end_ : ∃ n27 : Int, (Fn Tryz.prog 43 [fzS .i64 t, fzI .i64 ((i2 + 2 + s : Nat) : Int)] [] (fzI .i64 n27) []) ∧ ((((n27 != 59) = true) → R (strT ([], -1)) []) ∧ (((n27 != 59) = false) → ((((0 : Int) ≤ (IntKind.wrap .i64 ((i2 : Int) + 2))) ∧ ((IntKind.wrap .i64 ((i2 : Int) + 2)) ≤ ((i2 + 2 + s : Nat) : Int) ∧ ((i2 + 2 + s : Nat) : Int) ≤ ((List.length (ints .i64 t) : Nat) : Int))) ∧
        (∃ s6 : ByteArray, (Fn Tryz.prog 42 [.one (.fz (.sl 1 (List.drop (Int.toNat (IntKind.wrap .i64 ((i2 : Int) + 2))) (List.take (Int.toNat ((i2 + 2 + s : Nat) : Int)) (ints .i64 t)))))] [] (.one (.fz (.str s6))) []) ∧
          (∃ n24 : Int, (Fn Tryz.prog 80 [.one (.fz (.str s6))] [] (fzI .i64 n24) []) ∧ ((((decide (n24 < 0)) = true) → R (strT ([], -1)) []) ∧ (((decide (n24 < 0)) = false) →
            (((List.length (ints .i64 o1) + List.length [[FV.int .i64 n24]]) * 8 ≤ 220000000000000) ∧ ref02_text_L0 R (ints .i64 t) (IntKind.wrap .i64 (((i2 + 2 + s : Nat) : Int) + 1)) (ints .i64 o1 ++ [[FV.int .i64 n24]])))))))) ) := by
      refine ⟨pkL t (i2 + 2 + s), rAt_ok t _, fun hx => hbad (fun hy => by rw [hpk, hy.1] at hx; simp at hx), fun h59 => ?_⟩
      have h59' : pkL (t.drop (i2 + 2)) s = 59 := by rw [← hpk]; simpa using h59
      have hsl : s < t.length - (i2 + 2) := by
        unfold pkL at h59'
        split at h59'
        · omega
        · omega
      rw [w64 (n := (i2 : Int) + 2) (by omega) (by omega), ints_len]
      have e1 : ((t.take (i2 + 2 + s)).drop (i2 + 2)) = (t.drop (i2 + 2)).take s := by
        rw [List.drop_take]; congr 1; omega
      have hsc : Scals ((t.drop (i2 + 2)).take s) := (hs.drop _).take _
      have hln : ((t.drop (i2 + 2)).take s).length ≤ 7 := by simp; omega
      refine ⟨⟨by omega, by omega, by omega⟩, bytesOf (enc ((t.drop (i2 + 2)).take s)), ?_, hexV (enc ((t.drop (i2 + 2)).take s)), ?_, fun hx => hbad (fun hy => by have := of_decide_eq_true hx; omega), fun hn => ?_⟩
      · rw [Int.toNat_natCast, show Int.toNat ((i2 : Int) + 2) = i2 + 2 by omega, ints_take, ints_drop, e1]
        exact rStr_ok _ hsc (by omega)
      · have := enc_len ((t.drop (i2 + 2)).take s)
        exact rHex_ok _ (enc_bytes hsc) (by omega)
      · have hn' : 0 ≤ hexV (enc ((t.drop (i2 + 2)).take s)) := by
          have := of_decide_eq_false hn
          omega
        rw [ints_len, w64 (by omega) (by omega), ints_snoc]
        refine ⟨by simp only [List.length_cons, List.length_nil]; omega, ?_⟩
        have := hgo h59' hn'
        simpa using this
    refine ref02_text_l1 ?_
    unfold ref02_text_R1
    simp only [dec_t, dec_f, ints_len, Int.toNat_natCast]
    refine ⟨fun hk => ⟨by omega, rd t (i2 + 2 + s), by simp [ints, some_rd (show i2 + 2 + s < t.length by omega)], fun hne => ⟨fun hk2 => ?_, fun hk2 => ?_⟩, fun heq => ?_⟩, fun hk => ?_⟩
    · exfalso
      rw [w64 (by omega) (by omega)] at hk2
      rcases s2 with s2 | s2 | s2
      · omega
      · omega
      · rw [rd_dropN] at s2
        simp [s2] at hne
    · have := end_
      simp only [ints_len, Int.toNat_natCast, dec_t, dec_f] at this
      exact this
    · have := end_
      simp only [ints_len, Int.toNat_natCast, dec_t, dec_f] at this
      exact this
    · have := end_
      simp only [ints_len, Int.toNat_natCast, dec_t, dec_f] at this
      exact this
  intro m
  induction m with
  | zero =>
    intro j hj hle
    rw [show j = s by omega]
    exact fin
  | succ m ih =>
    intro j hj hle
    refine ref02_text_l1 ?_
    unfold ref02_text_R1
    simp only [dec_t, dec_f, ints_len, Int.toNat_natCast]
    have hne : rd t (i2 + 2 + j) ≠ 59 := by
      have := s1 j (by omega)
      rw [rd_dropN] at this
      exact this
    refine ⟨fun hk => ⟨by omega, rd t (i2 + 2 + j), by simp [ints, some_rd (show i2 + 2 + j < t.length by omega)], fun _ => ⟨fun _ => ?_, fun hk2 => ?_⟩, fun heq => ?_⟩, fun hk => ?_⟩
    · rw [w64 (by omega) (by omega)]
      have := ih (j + 1) (by omega) (by omega)
      rw [show ((i2 + 2 + (j + 1) : Nat) : Int) = ((i2 + 2 + j : Nat) : Int) + 1 by omega] at this
      exact this
    · exfalso
      rw [w64 (by omega) (by omega)] at hk2
      omega
    · exact absurd (by simpa using heq) hne
    · exfalso
      omega
theorem rtx_loop (t : List Int) (hs : Scals t) (hlen : t.length ≤ 1000000000) (R : TV → List Ob → Prop) : ∀ (f i : Nat) (acc : List Int), t.length - i < f → i ≤ t.length → acc.length ≤ i → R (strT (strZ (strF f (t.drop i) acc i))) [] → ref02_text_L0 R (ints .i64 t) i (ints .i64 acc) := by
  intro f
  induction f with
  | zero => intro i acc hf; omega
  | succ f ih =>
    intro i acc hf hle hacc hR
    refine ref02_text_l0 ?_
    unfold ref02_text_R0
    simp only [dec_t, dec_f, ints_len, Int.toNat_natCast]
    refine ⟨fun hk => ?_, fun hk => ?_⟩
    · have hlt : i < t.length := by omega
      rw [drop_rd' t i hlt] at hR
      unfold strF at hR
      refine ⟨by omega, rd t i, by simp [ints, some_rd hlt], fun h34 => ?_, fun h34 => ⟨fun h92 => ?_, fun h92 => ?_⟩⟩
      · rw [if_pos (by simpa using h34)] at hR
        unfold strZ at hR
        simp only at hR
        refine ⟨fun hb => ?_, fun hb => ?_⟩
        · rw [if_pos (by omega)] at hR; exact hR
        · rw [if_neg (by omega)] at hR
          rw [w64 (by omega) (by omega)]
          simpa using hR
      · rw [if_neg (by simpa using h34), if_pos (by simpa using h92)] at hR
        refine ⟨by simp only [List.length_cons, List.length_nil]; omega, ?_⟩
        rw [w64 (by omega) (by omega), ints_snoc]
        have := ih (i + 1) (acc ++ [rd t i]) (by omega) (by omega) (by simp; omega) hR
        simpa using this
      · rw [if_neg (by simpa using h34), if_neg (by simpa using h92)] at hR
        rw [w64 (n := (i : Int) + 1) (by omega) (by omega), w64 (n := (i : Int) + 2) (by omega) (by omega)]
        have hat : Fn Tryz.prog 43 [fzS .i64 t, fzI .i64 ((i : Int) + 1)] [] (fzI .i64 (pkL t (i + 1))) [] := by
          have := rAt_ok t (i + 1)
          simpa using this
        refine ⟨pkL t (i + 1), hat, ?_⟩
        have hpk : pkL (t.drop (i + 1)) 0 = pkL t (i + 1) := pkL_drop t (i + 1) 0
        have two : ∀ v : Int, 0 ≤ v → (escV (t.drop (i + 1))) = (v, 1) → pkL t (i + 1) ≠ -1 → ((acc.length + List.length [[FV.int .i64 v]]) * 8 ≤ 220000000000000) ∧ ref02_text_L0 R (ints .i64 t) ((i : Int) + 2) (ints .i64 acc ++ [[FV.int .i64 v]]) := by
          intro v hv0 hv hne
          rw [hv, if_neg (by simp; omega)] at hR
          simp only [List.drop_drop] at hR
          refine ⟨by simp only [List.length_cons, List.length_nil]; omega, ?_⟩
          have hi1 : i + 1 < t.length := by
            unfold pkL at hne
            split at hne
            · assumption
            · exact absurd rfl hne
          rw [ints_snoc]
          have := ih (i + 2) (acc ++ [v]) (by omega) (by omega) (by simp; omega) hR
          simpa using this
        have rdp : pkL t (i + 1) ≠ -1 → (ints .i64 t)[i + 1]? = some [FV.int .i64 (pkL t (i + 1))] := by
          intro hne
          unfold pkL at hne ⊢
          split at hne
          · rename_i h; rw [if_pos h]; simp [ints, some_rd h]
          · exact absurd rfl hne
        refine ⟨fun c1 => ?_, fun c1 => ⟨fun c2 => ?_, fun c2 => ⟨fun c3 => ?_, fun c3 => ⟨fun c4 => ?_, fun c4 => ⟨fun c5 => ?_, fun c5 => ⟨fun c6 => ?_, fun c6 => ?_⟩⟩⟩⟩⟩⟩
        · have e : pkL t (i + 1) = 110 := by simpa using c1
          exact two 10 (by omega) (by unfold escV; simp only [hpk, e]; rfl) (by omega)
        · have e : pkL t (i + 1) = 116 := by simpa using c2
          exact two 9 (by omega) (by unfold escV; simp only [hpk, e]; rfl) (by omega)
        · have e : pkL t (i + 1) = 114 := by simpa using c3
          exact two 13 (by omega) (by unfold escV; simp only [hpk, e]; rfl) (by omega)
        · have e : pkL t (i + 1) = 92 := by simpa using c4
          have hr := rdp (by omega)
          rw [e] at hr
          exact ⟨by omega, 92, by rw [show Int.toNat ((i : Int) + 1) = i + 1 by omega]; exact hr, two 92 (by omega) (by unfold escV; simp only [hpk, e]; rfl) (by omega)⟩
        · have e : pkL t (i + 1) = 34 := by simpa using c5
          have hr := rdp (by omega)
          rw [e] at hr
          exact ⟨by omega, 34, by rw [show Int.toNat ((i : Int) + 1) = i + 1 by omega]; exact hr, two 34 (by omega) (by unfold escV; simp only [hpk, e]; rfl) (by omega)⟩
        · have e : pkL t (i + 1) = 120 := by simpa using c6
          have hi1 : i + 1 < t.length := by
            unfold pkL at e
            split at e
            · assumption
            · omega
          have hev : escV (t.drop (i + 1)) = if pkL (t.drop (i + 2)) (semN 7 (t.drop (i + 2))) = 59 then (hexV (enc ((t.drop (i + 2)).take (semN 7 (t.drop (i + 2))))), semN 7 (t.drop (i + 2)) + 2) else (-1, 0) := by
            unfold escV
            simp only [hpk, e, List.drop_drop]
            rfl
          have hbad' : ((escV (t.drop (i + 1))).1 < 0) → R (strT ([], -1)) [] := by
            intro hb
            rw [if_pos hb] at hR
            exact hR
          by_cases h59 : pkL (t.drop (i + 2)) (semN 7 (t.drop (i + 2))) = 59
          · rw [if_pos h59] at hev
            have hsl := (semN_le 7 (t.drop (i + 2))).2
            have hsl2 : semN 7 (t.drop (i + 2)) < (t.drop (i + 2)).length := by
              unfold pkL at h59
              split at h59
              · assumption
              · omega
            simp only [List.length_drop] at hsl2
            rcases hexV_scal (enc ((t.drop (i + 2)).take (semN 7 (t.drop (i + 2))))) with hx | hx
            · have hb : R (strT ([], -1)) [] := hbad' (by rw [hev]; simp only; omega)
              have := text_hex t hs (by omega) i (by omega) acc (by omega) R (fun _ => hb) (fun _ h0 => absurd h0 (by omega)) _ 0 rfl (Nat.zero_le _)
              simpa using this
            · obtain ⟨x0, x1, _⟩ := scal_in hx
              rw [hev, if_neg (by simp only; omega)] at hR
              simp only [List.drop_drop] at hR
              have hnext := ih (i + 1 + (semN 7 (t.drop (i + 2)) + 2)) (acc ++ [hexV (enc ((t.drop (i + 2)).take (semN 7 (t.drop (i + 2)))))]) (by omega) (by omega) (by simp; omega) (by
                rw [show i + 1 + (semN 7 (t.drop (i + 2)) + 2) = i + 1 + (semN 7 (t.drop (i + 2)) + 2) from rfl]
                exact hR)
              have := text_hex t hs (by omega) i (by omega) acc (by omega) R (fun hn => absurd ⟨h59, x0⟩ hn) (fun _ _ => by
                rw [show i + 2 + semN 7 (t.drop (i + 2)) + 1 = i + 1 + (semN 7 (t.drop (i + 2)) + 2) by omega]
                exact hnext) _ 0 rfl (Nat.zero_le _)
              simpa using this
          · rw [if_neg h59] at hev
            have hb : R (strT ([], -1)) [] := hbad' (by rw [hev]; simp)
            have := text_hex t hs (by omega) i (by omega) acc (by omega) R (fun _ => hb) (fun h _ => absurd h h59) _ 0 rfl (Nat.zero_le _)
            simpa using this
        · have : escV (t.drop (i + 1)) = (-1, 0) := by
            unfold escV
            simp only [hpk]
            rw [if_neg (by simpa using c1), if_neg (by simpa using c2), if_neg (by simpa using c3), if_neg (by simpa using c4), if_neg (by simpa using c5), if_neg (by simpa using c6)]
          rw [this, if_pos (by simp)] at hR
          exact hR
    · rw [List.drop_eq_nil_of_le (by omega)] at hR
      exact hR
end Go.Proofs.YtejefchehdifhaaGreatDoor.Ev
end
section
set_option linter.unusedVariables false
set_option maxRecDepth 100000
namespace Go.Proofs.YtejefchehdifhaaGreatDoor.Ev
open Go
def strconv_ParseUint_lv : List Nat → Keep := lvOf []
def strconv_ParseUint_H (R : TV → List Ob → Prop) (s : ByteArray) : Prop :=
  (∃ n1 : Int, (∃ b2 : Bool, ((Fn Tryz.prog 158 [(TV.one (AV.fz (FV.str s))), (TV.one (AV.fz (FV.int .i64 16))), (TV.one (AV.fz (FV.int .i64 32)))] [] (TV.tup [(false, [(AV.fz (FV.int .u64 n1))]), (false, [(AV.fz (FV.ifc b2))])]) []) ∧ (ifB (Bool.not (Bool.not b2)) (∃ b3 : Bool, ((Fn Tryz.prog 117 [(TV.one (AV.fz (FV.str (ByteArray.mk #[80, 97, 114, 115, 101, 85, 105, 110, 116])))), (TV.one (AV.fz (FV.str s))), (TV.one (AV.fz (FV.int .i64 16))), (TV.one (AV.fz (FV.int .i64 32))), (TV.one (AV.fz (FV.ifc b2)))] [] (TV.one (AV.fz (FV.ifc b3))) []) ∧ (R (TV.tup [(false, [(AV.fz (FV.int .u64 n1))]), (false, [(AV.fz (FV.ifc b3))])]) []))) (R (TV.tup [(false, [(AV.fz (FV.int .u64 n1))]), (false, [(AV.fz (FV.ifc false))])]) [])))))
theorem strconv_ParseUint_fn (s : ByteArray) {r : TV} {h : List Ob} (H : strconv_ParseUint_H (fun r' h' => r' = r ∧ h' = h) s) : Fn Tryz.prog 155 [(TV.one (AV.fz (FV.str s))), (TV.one (AV.fz (FV.int .i64 16))), (TV.one (AV.fz (FV.int .i64 32)))] [] r h :=
  Fn.by_tr (M := (modeC [] [])) (lv := strconv_ParseUint_lv) (own := none) (F := Tryz.f155) (by kernel_rfl) (by kernel_rfl) (by first | decide | simp) (fun _ _ h => h) (by kernel_rfl) H
def internal_strconv_ParseUint_lv : List Nat → Keep := lvOf [([0, 1, 0, 1, 1, 1, 1, 1, 1, 1, 1, 1, 1, 1], ⟨4436777100798802905238461234946, 0, [], false, false⟩)]
def internal_strconv_ParseUint_S0 (s : ByteArray) (n13 : Int) (i : Int) : St := (St.mk [TV.und, (TV.one (AV.fz (FV.int .i64 16))), TV.und, TV.und, TV.und, TV.und, TV.und, TV.und, (TV.one (AV.fz (FV.bool ((16 : Int) == 0)))), (TV.one (AV.fz (FV.str s))), (TV.one (AV.fz (FV.int .u64 1152921504606846976))), (TV.one (AV.fz (FV.int .u64 (IntKind.wrap .u64 ((IntKind.wrap .u64 (1 * (2 ^ (min (Int.toNat (IntKind.wrap .u64 32)) 64)))) - 1))))), (TV.one (AV.fz (FV.bool false))), (TV.one (AV.fz (FV.int .u64 n13))), TV.und, TV.und, TV.und, TV.und, TV.und, TV.und, TV.und, TV.und, TV.und, TV.und, TV.und, TV.und, TV.und, TV.und, TV.und, TV.und, TV.und, TV.und, TV.und, TV.und, TV.und, TV.und, TV.und, TV.und, TV.und, TV.und, TV.und, TV.und, TV.und, TV.und, TV.und, TV.und, TV.und, TV.und, TV.und, TV.und, TV.und, TV.und, TV.und, TV.und, TV.und, TV.und, TV.und, TV.und, TV.und, TV.und, TV.und, TV.und, TV.und, TV.und, TV.und, TV.und, TV.und, TV.und, TV.und, TV.und, TV.und, TV.und, TV.und, TV.und, TV.und, TV.und, TV.und, TV.und, TV.und, TV.und, TV.und, TV.und, TV.und, TV.und, TV.und, TV.und, TV.und, TV.und, TV.und, TV.und, TV.und, TV.und, TV.und, TV.und, TV.und, TV.und, TV.und, TV.und, TV.und, (TV.one (AV.fz (FV.sl 1 (List.map (fun b7 => [(FV.int .u8 (((UInt8.toNat b7) : Nat) : Int))]) (Array.toList (ByteArray.data s)))))), (TV.one (AV.fz (FV.int .i64 (((List.length (List.map (fun b8 => [(FV.int .u8 (((UInt8.toNat b8) : Nat) : Int))]) (Array.toList (ByteArray.data s)))) : Nat) : Int)))), (TV.one (AV.fz (FV.int .i64 i))), TV.und, TV.und, TV.und, TV.und, TV.und, TV.und, TV.und, TV.und, TV.und, TV.und, TV.und, TV.und, TV.und, TV.und, TV.und, TV.und, TV.und, TV.und, TV.und, TV.und, TV.und, TV.und, TV.und, TV.und, TV.und, TV.und, TV.und, TV.und, TV.und, TV.und, TV.und, TV.und, TV.und, TV.und, TV.und, TV.und, TV.und, TV.und, TV.und, TV.und, TV.und, TV.und, TV.und, TV.und, TV.und, TV.und, TV.und, TV.und, TV.und, TV.und, TV.und, TV.und, TV.und, TV.und, TV.und, TV.und, TV.und, TV.und, TV.und, TV.und, TV.und, TV.und, TV.und, TV.und, TV.und, TV.und, TV.und, TV.und, TV.und, TV.und] [])
def internal_strconv_ParseUint_L0 (R : TV → List Ob → Prop) (s : ByteArray) (n13 : Int) (i : Int) : Prop := LoopAt Tryz.prog (modeC [] []) internal_strconv_ParseUint_lv Tryz.f158 none R [1, 1, 1, 1, 1, 1, 1, 1, 1, 1, 1, 0, 1, 0] (internal_strconv_ParseUint_S0 s n13 i)
def internal_strconv_ParseUint_R0 (R : TV → List Ob → Prop) (s : ByteArray) (n13 : Int) (i : Int) : Prop :=
  (ifB (decide (i < (((List.length (List.map (fun b6 => [(FV.int .u8 (((UInt8.toNat b6) : Nat) : Int))]) (Array.toList (ByteArray.data s)))) : Nat) : Int))) (((0 : Int) ≤ i) ∧ (∃ n27 : Int, ((((List.map (fun b5 => [(FV.int .u8 (((UInt8.toNat b5) : Nat) : Int))]) (Array.toList (ByteArray.data s))))[(Int.toNat i)]? = (some [(FV.int .u8 n27)])) ∧ (ifB (n27 == 95) (ifB (decide ((48 : Int) ≤ n27)) (ifB (decide (n27 ≤ 57)) (ifB (decide ((IntKind.wrap .u8 16) ≤ (IntKind.wrap .u8 (n27 - 48)))) (R (TV.tup [(false, [(AV.fz (FV.int .u64 0))]), (false, [(AV.fz (FV.ifv 172 false [(FV.int .i64 2)]))])]) []) (ifB (decide ((1152921504606846976 : Int) ≤ n13)) (R (TV.tup [(false, [(AV.fz (FV.int .u64 (IntKind.wrap .u64 ((IntKind.wrap .u64 (1 * (2 ^ (min (Int.toNat (IntKind.wrap .u64 32)) 64)))) - 1))))]), (false, [(AV.fz (FV.ifv 172 false [(FV.int .i64 1)]))])]) []) (ifB (decide ((IntKind.wrap .u64 ((IntKind.wrap .u64 (n13 * (IntKind.wrap .u64 16))) + (IntKind.wrap .u64 (IntKind.wrap .u8 (n27 - 48))))) < (IntKind.wrap .u64 (n13 * (IntKind.wrap .u64 16))))) (R (TV.tup [(false, [(AV.fz (FV.int .u64 (IntKind.wrap .u64 ((IntKind.wrap .u64 (1 * (2 ^ (min (Int.toNat (IntKind.wrap .u64 32)) 64)))) - 1))))]), (false, [(AV.fz (FV.ifv 172 false [(FV.int .i64 1)]))])]) []) (ifB (decide ((IntKind.wrap .u64 ((IntKind.wrap .u64 (1 * (2 ^ (min (Int.toNat (IntKind.wrap .u64 32)) 64)))) - 1)) < (IntKind.wrap .u64 ((IntKind.wrap .u64 (n13 * (IntKind.wrap .u64 16))) + (IntKind.wrap .u64 (IntKind.wrap .u8 (n27 - 48))))))) (R (TV.tup [(false, [(AV.fz (FV.int .u64 (IntKind.wrap .u64 ((IntKind.wrap .u64 (1 * (2 ^ (min (Int.toNat (IntKind.wrap .u64 32)) 64)))) - 1))))]), (false, [(AV.fz (FV.ifv 172 false [(FV.int .i64 1)]))])]) []) (internal_strconv_ParseUint_L0 R s (IntKind.wrap .u64 ((IntKind.wrap .u64 (n13 * (IntKind.wrap .u64 16))) + (IntKind.wrap .u64 (IntKind.wrap .u8 (n27 - 48))))) (IntKind.wrap .i64 (i + 1))))))) (∃ n28 : Int, ((Fn Tryz.prog 174 [(TV.one (AV.fz (FV.int .u8 n27)))] [] (TV.one (AV.fz (FV.int .u8 n28))) []) ∧ (ifB (decide ((97 : Int) ≤ n28)) (∃ n29 : Int, ((Fn Tryz.prog 174 [(TV.one (AV.fz (FV.int .u8 n27)))] [] (TV.one (AV.fz (FV.int .u8 n29))) []) ∧ (ifB (decide (n29 ≤ 122)) (∃ n30 : Int, ((Fn Tryz.prog 174 [(TV.one (AV.fz (FV.int .u8 n27)))] [] (TV.one (AV.fz (FV.int .u8 n30))) []) ∧ (ifB (decide ((IntKind.wrap .u8 16) ≤ (IntKind.wrap .u8 ((IntKind.wrap .u8 (n30 - 97)) + 10)))) (R (TV.tup [(false, [(AV.fz (FV.int .u64 0))]), (false, [(AV.fz (FV.ifv 172 false [(FV.int .i64 2)]))])]) []) (ifB (decide ((1152921504606846976 : Int) ≤ n13)) (R (TV.tup [(false, [(AV.fz (FV.int .u64 (IntKind.wrap .u64 ((IntKind.wrap .u64 (1 * (2 ^ (min (Int.toNat (IntKind.wrap .u64 32)) 64)))) - 1))))]), (false, [(AV.fz (FV.ifv 172 false [(FV.int .i64 1)]))])]) []) (ifB (decide ((IntKind.wrap .u64 ((IntKind.wrap .u64 (n13 * (IntKind.wrap .u64 16))) + (IntKind.wrap .u64 (IntKind.wrap .u8 ((IntKind.wrap .u8 (n30 - 97)) + 10))))) < (IntKind.wrap .u64 (n13 * (IntKind.wrap .u64 16))))) (R (TV.tup [(false, [(AV.fz (FV.int .u64 (IntKind.wrap .u64 ((IntKind.wrap .u64 (1 * (2 ^ (min (Int.toNat (IntKind.wrap .u64 32)) 64)))) - 1))))]), (false, [(AV.fz (FV.ifv 172 false [(FV.int .i64 1)]))])]) []) (ifB (decide ((IntKind.wrap .u64 ((IntKind.wrap .u64 (1 * (2 ^ (min (Int.toNat (IntKind.wrap .u64 32)) 64)))) - 1)) < (IntKind.wrap .u64 ((IntKind.wrap .u64 (n13 * (IntKind.wrap .u64 16))) + (IntKind.wrap .u64 (IntKind.wrap .u8 ((IntKind.wrap .u8 (n30 - 97)) + 10))))))) (R (TV.tup [(false, [(AV.fz (FV.int .u64 (IntKind.wrap .u64 ((IntKind.wrap .u64 (1 * (2 ^ (min (Int.toNat (IntKind.wrap .u64 32)) 64)))) - 1))))]), (false, [(AV.fz (FV.ifv 172 false [(FV.int .i64 1)]))])]) []) (internal_strconv_ParseUint_L0 R s (IntKind.wrap .u64 ((IntKind.wrap .u64 (n13 * (IntKind.wrap .u64 16))) + (IntKind.wrap .u64 (IntKind.wrap .u8 ((IntKind.wrap .u8 (n30 - 97)) + 10))))) (IntKind.wrap .i64 (i + 1))))))))) (R (TV.tup [(false, [(AV.fz (FV.int .u64 0))]), (false, [(AV.fz (FV.ifv 172 false [(FV.int .i64 2)]))])]) [])))) (R (TV.tup [(false, [(AV.fz (FV.int .u64 0))]), (false, [(AV.fz (FV.ifv 172 false [(FV.int .i64 2)]))])]) []))))) (∃ n31 : Int, ((Fn Tryz.prog 174 [(TV.one (AV.fz (FV.int .u8 n27)))] [] (TV.one (AV.fz (FV.int .u8 n31))) []) ∧ (ifB (decide ((97 : Int) ≤ n31)) (∃ n32 : Int, ((Fn Tryz.prog 174 [(TV.one (AV.fz (FV.int .u8 n27)))] [] (TV.one (AV.fz (FV.int .u8 n32))) []) ∧ (ifB (decide (n32 ≤ 122)) (∃ n33 : Int, ((Fn Tryz.prog 174 [(TV.one (AV.fz (FV.int .u8 n27)))] [] (TV.one (AV.fz (FV.int .u8 n33))) []) ∧ (ifB (decide ((IntKind.wrap .u8 16) ≤ (IntKind.wrap .u8 ((IntKind.wrap .u8 (n33 - 97)) + 10)))) (R (TV.tup [(false, [(AV.fz (FV.int .u64 0))]), (false, [(AV.fz (FV.ifv 172 false [(FV.int .i64 2)]))])]) []) (ifB (decide ((1152921504606846976 : Int) ≤ n13)) (R (TV.tup [(false, [(AV.fz (FV.int .u64 (IntKind.wrap .u64 ((IntKind.wrap .u64 (1 * (2 ^ (min (Int.toNat (IntKind.wrap .u64 32)) 64)))) - 1))))]), (false, [(AV.fz (FV.ifv 172 false [(FV.int .i64 1)]))])]) []) (ifB (decide ((IntKind.wrap .u64 ((IntKind.wrap .u64 (n13 * (IntKind.wrap .u64 16))) + (IntKind.wrap .u64 (IntKind.wrap .u8 ((IntKind.wrap .u8 (n33 - 97)) + 10))))) < (IntKind.wrap .u64 (n13 * (IntKind.wrap .u64 16))))) (R (TV.tup [(false, [(AV.fz (FV.int .u64 (IntKind.wrap .u64 ((IntKind.wrap .u64 (1 * (2 ^ (min (Int.toNat (IntKind.wrap .u64 32)) 64)))) - 1))))]), (false, [(AV.fz (FV.ifv 172 false [(FV.int .i64 1)]))])]) []) (ifB (decide ((IntKind.wrap .u64 ((IntKind.wrap .u64 (1 * (2 ^ (min (Int.toNat (IntKind.wrap .u64 32)) 64)))) - 1)) < (IntKind.wrap .u64 ((IntKind.wrap .u64 (n13 * (IntKind.wrap .u64 16))) + (IntKind.wrap .u64 (IntKind.wrap .u8 ((IntKind.wrap .u8 (n33 - 97)) + 10))))))) (R (TV.tup [(false, [(AV.fz (FV.int .u64 (IntKind.wrap .u64 ((IntKind.wrap .u64 (1 * (2 ^ (min (Int.toNat (IntKind.wrap .u64 32)) 64)))) - 1))))]), (false, [(AV.fz (FV.ifv 172 false [(FV.int .i64 1)]))])]) []) (internal_strconv_ParseUint_L0 R s (IntKind.wrap .u64 ((IntKind.wrap .u64 (n13 * (IntKind.wrap .u64 16))) + (IntKind.wrap .u64 (IntKind.wrap .u8 ((IntKind.wrap .u8 (n33 - 97)) + 10))))) (IntKind.wrap .i64 (i + 1))))))))) (R (TV.tup [(false, [(AV.fz (FV.int .u64 0))]), (false, [(AV.fz (FV.ifv 172 false [(FV.int .i64 2)]))])]) [])))) (R (TV.tup [(false, [(AV.fz (FV.int .u64 0))]), (false, [(AV.fz (FV.ifv 172 false [(FV.int .i64 2)]))])]) []))))) (ifB (decide ((48 : Int) ≤ n27)) (ifB (decide (n27 ≤ 57)) (ifB (decide ((IntKind.wrap .u8 16) ≤ (IntKind.wrap .u8 (n27 - 48)))) (R (TV.tup [(false, [(AV.fz (FV.int .u64 0))]), (false, [(AV.fz (FV.ifv 172 false [(FV.int .i64 2)]))])]) []) (ifB (decide ((1152921504606846976 : Int) ≤ n13)) (R (TV.tup [(false, [(AV.fz (FV.int .u64 (IntKind.wrap .u64 ((IntKind.wrap .u64 (1 * (2 ^ (min (Int.toNat (IntKind.wrap .u64 32)) 64)))) - 1))))]), (false, [(AV.fz (FV.ifv 172 false [(FV.int .i64 1)]))])]) []) (ifB (decide ((IntKind.wrap .u64 ((IntKind.wrap .u64 (n13 * (IntKind.wrap .u64 16))) + (IntKind.wrap .u64 (IntKind.wrap .u8 (n27 - 48))))) < (IntKind.wrap .u64 (n13 * (IntKind.wrap .u64 16))))) (R (TV.tup [(false, [(AV.fz (FV.int .u64 (IntKind.wrap .u64 ((IntKind.wrap .u64 (1 * (2 ^ (min (Int.toNat (IntKind.wrap .u64 32)) 64)))) - 1))))]), (false, [(AV.fz (FV.ifv 172 false [(FV.int .i64 1)]))])]) []) (ifB (decide ((IntKind.wrap .u64 ((IntKind.wrap .u64 (1 * (2 ^ (min (Int.toNat (IntKind.wrap .u64 32)) 64)))) - 1)) < (IntKind.wrap .u64 ((IntKind.wrap .u64 (n13 * (IntKind.wrap .u64 16))) + (IntKind.wrap .u64 (IntKind.wrap .u8 (n27 - 48))))))) (R (TV.tup [(false, [(AV.fz (FV.int .u64 (IntKind.wrap .u64 ((IntKind.wrap .u64 (1 * (2 ^ (min (Int.toNat (IntKind.wrap .u64 32)) 64)))) - 1))))]), (false, [(AV.fz (FV.ifv 172 false [(FV.int .i64 1)]))])]) []) (internal_strconv_ParseUint_L0 R s (IntKind.wrap .u64 ((IntKind.wrap .u64 (n13 * (IntKind.wrap .u64 16))) + (IntKind.wrap .u64 (IntKind.wrap .u8 (n27 - 48))))) (IntKind.wrap .i64 (i + 1))))))) (∃ n34 : Int, ((Fn Tryz.prog 174 [(TV.one (AV.fz (FV.int .u8 n27)))] [] (TV.one (AV.fz (FV.int .u8 n34))) []) ∧ (ifB (decide ((97 : Int) ≤ n34)) (∃ n35 : Int, ((Fn Tryz.prog 174 [(TV.one (AV.fz (FV.int .u8 n27)))] [] (TV.one (AV.fz (FV.int .u8 n35))) []) ∧ (ifB (decide (n35 ≤ 122)) (∃ n36 : Int, ((Fn Tryz.prog 174 [(TV.one (AV.fz (FV.int .u8 n27)))] [] (TV.one (AV.fz (FV.int .u8 n36))) []) ∧ (ifB (decide ((IntKind.wrap .u8 16) ≤ (IntKind.wrap .u8 ((IntKind.wrap .u8 (n36 - 97)) + 10)))) (R (TV.tup [(false, [(AV.fz (FV.int .u64 0))]), (false, [(AV.fz (FV.ifv 172 false [(FV.int .i64 2)]))])]) []) (ifB (decide ((1152921504606846976 : Int) ≤ n13)) (R (TV.tup [(false, [(AV.fz (FV.int .u64 (IntKind.wrap .u64 ((IntKind.wrap .u64 (1 * (2 ^ (min (Int.toNat (IntKind.wrap .u64 32)) 64)))) - 1))))]), (false, [(AV.fz (FV.ifv 172 false [(FV.int .i64 1)]))])]) []) (ifB (decide ((IntKind.wrap .u64 ((IntKind.wrap .u64 (n13 * (IntKind.wrap .u64 16))) + (IntKind.wrap .u64 (IntKind.wrap .u8 ((IntKind.wrap .u8 (n36 - 97)) + 10))))) < (IntKind.wrap .u64 (n13 * (IntKind.wrap .u64 16))))) (R (TV.tup [(false, [(AV.fz (FV.int .u64 (IntKind.wrap .u64 ((IntKind.wrap .u64 (1 * (2 ^ (min (Int.toNat (IntKind.wrap .u64 32)) 64)))) - 1))))]), (false, [(AV.fz (FV.ifv 172 false [(FV.int .i64 1)]))])]) []) (ifB (decide ((IntKind.wrap .u64 ((IntKind.wrap .u64 (1 * (2 ^ (min (Int.toNat (IntKind.wrap .u64 32)) 64)))) - 1)) < (IntKind.wrap .u64 ((IntKind.wrap .u64 (n13 * (IntKind.wrap .u64 16))) + (IntKind.wrap .u64 (IntKind.wrap .u8 ((IntKind.wrap .u8 (n36 - 97)) + 10))))))) (R (TV.tup [(false, [(AV.fz (FV.int .u64 (IntKind.wrap .u64 ((IntKind.wrap .u64 (1 * (2 ^ (min (Int.toNat (IntKind.wrap .u64 32)) 64)))) - 1))))]), (false, [(AV.fz (FV.ifv 172 false [(FV.int .i64 1)]))])]) []) (internal_strconv_ParseUint_L0 R s (IntKind.wrap .u64 ((IntKind.wrap .u64 (n13 * (IntKind.wrap .u64 16))) + (IntKind.wrap .u64 (IntKind.wrap .u8 ((IntKind.wrap .u8 (n36 - 97)) + 10))))) (IntKind.wrap .i64 (i + 1))))))))) (R (TV.tup [(false, [(AV.fz (FV.int .u64 0))]), (false, [(AV.fz (FV.ifv 172 false [(FV.int .i64 2)]))])]) [])))) (R (TV.tup [(false, [(AV.fz (FV.int .u64 0))]), (false, [(AV.fz (FV.ifv 172 false [(FV.int .i64 2)]))])]) []))))) (∃ n37 : Int, ((Fn Tryz.prog 174 [(TV.one (AV.fz (FV.int .u8 n27)))] [] (TV.one (AV.fz (FV.int .u8 n37))) []) ∧ (ifB (decide ((97 : Int) ≤ n37)) (∃ n38 : Int, ((Fn Tryz.prog 174 [(TV.one (AV.fz (FV.int .u8 n27)))] [] (TV.one (AV.fz (FV.int .u8 n38))) []) ∧ (ifB (decide (n38 ≤ 122)) (∃ n39 : Int, ((Fn Tryz.prog 174 [(TV.one (AV.fz (FV.int .u8 n27)))] [] (TV.one (AV.fz (FV.int .u8 n39))) []) ∧ (ifB (decide ((IntKind.wrap .u8 16) ≤ (IntKind.wrap .u8 ((IntKind.wrap .u8 (n39 - 97)) + 10)))) (R (TV.tup [(false, [(AV.fz (FV.int .u64 0))]), (false, [(AV.fz (FV.ifv 172 false [(FV.int .i64 2)]))])]) []) (ifB (decide ((1152921504606846976 : Int) ≤ n13)) (R (TV.tup [(false, [(AV.fz (FV.int .u64 (IntKind.wrap .u64 ((IntKind.wrap .u64 (1 * (2 ^ (min (Int.toNat (IntKind.wrap .u64 32)) 64)))) - 1))))]), (false, [(AV.fz (FV.ifv 172 false [(FV.int .i64 1)]))])]) []) (ifB (decide ((IntKind.wrap .u64 ((IntKind.wrap .u64 (n13 * (IntKind.wrap .u64 16))) + (IntKind.wrap .u64 (IntKind.wrap .u8 ((IntKind.wrap .u8 (n39 - 97)) + 10))))) < (IntKind.wrap .u64 (n13 * (IntKind.wrap .u64 16))))) (R (TV.tup [(false, [(AV.fz (FV.int .u64 (IntKind.wrap .u64 ((IntKind.wrap .u64 (1 * (2 ^ (min (Int.toNat (IntKind.wrap .u64 32)) 64)))) - 1))))]), (false, [(AV.fz (FV.ifv 172 false [(FV.int .i64 1)]))])]) []) (ifB (decide ((IntKind.wrap .u64 ((IntKind.wrap .u64 (1 * (2 ^ (min (Int.toNat (IntKind.wrap .u64 32)) 64)))) - 1)) < (IntKind.wrap .u64 ((IntKind.wrap .u64 (n13 * (IntKind.wrap .u64 16))) + (IntKind.wrap .u64 (IntKind.wrap .u8 ((IntKind.wrap .u8 (n39 - 97)) + 10))))))) (R (TV.tup [(false, [(AV.fz (FV.int .u64 (IntKind.wrap .u64 ((IntKind.wrap .u64 (1 * (2 ^ (min (Int.toNat (IntKind.wrap .u64 32)) 64)))) - 1))))]), (false, [(AV.fz (FV.ifv 172 false [(FV.int .i64 1)]))])]) []) (internal_strconv_ParseUint_L0 R s (IntKind.wrap .u64 ((IntKind.wrap .u64 (n13 * (IntKind.wrap .u64 16))) + (IntKind.wrap .u64 (IntKind.wrap .u8 ((IntKind.wrap .u8 (n39 - 97)) + 10))))) (IntKind.wrap .i64 (i + 1))))))))) (R (TV.tup [(false, [(AV.fz (FV.int .u64 0))]), (false, [(AV.fz (FV.ifv 172 false [(FV.int .i64 2)]))])]) [])))) (R (TV.tup [(false, [(AV.fz (FV.int .u64 0))]), (false, [(AV.fz (FV.ifv 172 false [(FV.int .i64 2)]))])]) []))))))))) (R (TV.tup [(false, [(AV.fz (FV.int .u64 n13))]), (false, [(AV.fz (FV.ifc false))])]) []))
theorem internal_strconv_ParseUint_l0 {R : TV → List Ob → Prop} {s : ByteArray} {n13 : Int} {i : Int} (h : internal_strconv_ParseUint_R0 R s n13 i) : internal_strconv_ParseUint_L0 R s n13 i :=
  LoopAt.by_tr (by kernel_rfl) (by kernel_rfl) h
def internal_strconv_ParseUint_H (R : TV → List Ob → Prop) (s : ByteArray) : Prop :=
  (ifB ((ByteArray.toList s) == (ByteArray.toList (ByteArray.mk #[]))) (R (TV.tup [(false, [(AV.fz (FV.int .u64 0))]), (false, [(AV.fz (FV.ifv 172 false [(FV.int .i64 2)]))])]) []) (((0 : Int) ≤ (IntKind.wrap .u64 32)) ∧ (internal_strconv_ParseUint_L0 R s 0 0)))
theorem internal_strconv_ParseUint_fn (s : ByteArray) {r : TV} {h : List Ob} (H : internal_strconv_ParseUint_H (fun r' h' => r' = r ∧ h' = h) s) : Fn Tryz.prog 158 [(TV.one (AV.fz (FV.str s))), (TV.one (AV.fz (FV.int .i64 16))), (TV.one (AV.fz (FV.int .i64 32)))] [] r h :=
  Fn.by_tr (M := (modeC [] [])) (lv := internal_strconv_ParseUint_lv) (own := none) (F := Tryz.f158) (by kernel_rfl) (by kernel_rfl) (by first | decide | simp) (fun _ _ h => h) (by kernel_rfl) H
end Go.Proofs.YtejefchehdifhaaGreatDoor.Ev
end
section
set_option linter.unusedVariables false
set_option linter.unusedSimpArgs false
namespace Go.Proofs.YtejefchehdifhaaGreatDoor.Ev
open Go
def hexA : List Int → Int → Int
  | [], n => n
  | c :: r, n => hexA r (n * 16 + hexD c)
def hexOk (l : List Int) : Bool := l.all fun c => decide (0 ≤ hexD c)
theorem hexR_eq : ∀ (l : List Int) (n : Int), hexR l n = if hexOk l = true then (if scalB (hexA l n) = true then hexA l n else -1) else -1
  | [], n => rfl
  | c :: r, n => by
    have ih := hexR_eq r (n * 16 + hexD c)
    unfold hexR hexA
    by_cases h : hexD c < 0
    · rw [if_pos h, if_neg]
      unfold hexOk
      simp
      omega
    · rw [if_neg h, ih]
      have : hexOk (c :: r) = hexOk r := by
        unfold hexOk
        simp
        omega
      rw [this]
theorem hexD_lt (c : Int) : hexD c < 16 := by
  unfold hexD
  repeat' split
  all_goals omega
theorem hexA_bound : ∀ (l : List Int) (n B : Int), hexOk l = true → 0 ≤ n → n < B → 0 ≤ hexA l n ∧ hexA l n < B * 16 ^ l.length
  | [], n, B, h, h0, h1 => by simp [hexA, h0, h1]
  | c :: r, n, B, h, h0, h1 => by
    unfold hexOk at h
    simp only [List.all_cons, Bool.and_eq_true, decide_eq_true_eq] at h
    have := hexD_lt c
    have ih := hexA_bound r (n * 16 + hexD c) (B * 16) h.2 (by omega) (by omega)
    unfold hexA
    rw [List.length_cons, Int.pow_succ, Int.mul_comm (16 ^ r.length) 16, ← Int.mul_assoc]
    exact ih
theorem hex_tab : ∀ n : Fin 256, ([48, 49, 50, 51, 52, 53, 54, 55, 56, 57, 97, 98, 99, 100, 101, 102, 65, 66, 67, 68, 69, 70] : List UInt8).contains (UInt8.ofNat n.val) = decide (0 ≤ hexD (n.val : Int)) := by decide +kernel
theorem all_hex {X : List Int} (hX : Bytes X) : (X.map fun n => UInt8.ofNat n.toNat).all (([48, 49, 50, 51, 52, 53, 54, 55, 56, 57, 97, 98, 99, 100, 101, 102, 65, 66, 67, 68, 69, 70] : List UInt8).contains ·) = hexOk X := by
  unfold hexOk
  rw [Bool.eq_iff_iff, List.all_map, List.all_eq_true, List.all_eq_true]
  refine forall_congr' fun x => ⟨fun h hx => ?_, fun h hx => ?_⟩
  all_goals
    have h1 := h hx
    have h2 := hX x hx
    have h3 := hex_tab ⟨x.toNat, by omega⟩
    simp only at h3
    rw [show ((x.toNat : Nat) : Int) = x by omega] at h3
    simp only [Function.comp_apply] at h1 ⊢
  · rw [← h3]; exact h1
  · rw [h3]; exact h1
theorem trim_hex {X : List Int} (hX : Bytes X) : ((ByteArray.toList ⟨(Lib.trimS (bytesOf X).data.toList (ByteArray.mk #[48, 49, 50, 51, 52, 53, 54, 55, 56, 57, 97, 98, 99, 100, 101, 102, 65, 66, 67, 68, 69, 70]).data.toList).toArray⟩) == ByteArray.toList (ByteArray.mk #[])) = hexOk X := by
  rw [ByteArray.toList_eq, ByteArray.toList_eq, ← all_hex hX, data_of]
  generalize X.map (fun n => UInt8.ofNat n.toNat) = l
  rw [Bool.eq_iff_iff, ← trim_nil, beq_iff_eq]
  rfl
def lowV (c : Int) : Int := IntKind.wrap .u8 (((BitVec.toNat ((BitVec.ofInt 8 c) ||| (BitVec.ofInt 8 32))) : Nat) : Int)
theorem low_tab : ∀ n : Fin 256, 0 ≤ hexD (n.val : Int) → ¬ (48 ≤ (n.val : Int) ∧ (n.val : Int) ≤ 57) → lowV (n.val : Int) = hexD (n.val : Int) + 87 := by decide +kernel
theorem lower_ok (c : Int) : Fn Tryz.prog 174 [fzI .u8 c] [] (fzI .u8 (lowV c)) [] := by
  refine internal_strconv_lower_fn _ ?_
  unfold internal_strconv_lower_H
  exact ⟨rfl, rfl⟩
theorem ifB_t {b : Bool} {y n : Prop} (h : b = true) (hy : y) : ifB b y n := by rw [h]; exact hy
theorem ifB_f {b : Bool} {y n : Prop} (h : b = false) (hn : n) : ifB b y n := by rw [h]; exact hn
abbrev puT (n : Int) (b : Bool) : TV := .tup [(false, [.fz (.int .u64 n)]), (false, [.fz (.ifc b)])]
theorem pHex_loop (T : List Int) (hT : Bytes T) (hlen : T.length ≤ 6) (hok : hexOk T = true) (R : TV → List Ob → Prop) : ∀ (m i : Nat) (n : Int), T.length - i = m → i ≤ T.length → 0 ≤ n → n < 16 ^ i → R (puT (hexA (T.drop i) n) false) [] → internal_strconv_ParseUint_L0 R (bytesOf T) n i := by
  have p6 : (16 : Int) ^ 6 = 16777216 := by decide
  have hp : ∀ i : Nat, i ≤ 6 → (16 : Int) ^ i ≤ 16777216 := fun i hi => by rw [← p6]; exact pow_mono (by omega) hi
  intro m
  induction m with
  | zero =>
    intro i n hi hle h0 h1 hR
    refine internal_strconv_ParseUint_l0 ?_
    unfold internal_strconv_ParseUint_R0
    rw [map_bs, bs_of hT, ints_len]
    refine ifB_f (by simp; omega) ?_
    rw [List.drop_eq_nil_of_le (by omega)] at hR
    exact hR
  | succ m ih =>
    intro i n hi hle h0 h1 hR
    refine internal_strconv_ParseUint_l0 ?_
    unfold internal_strconv_ParseUint_R0
    have hlt : i < T.length := by omega
    have hb := hT.rd (by omega) i
    have hpi := hp i (by omega)
    have hp1 : (16 : Int) ^ (i + 1) = 16 ^ i * 16 := Int.pow_succ 16 i
    have hd0 : 0 ≤ hexD (rd T i) := by
      unfold hexOk at hok
      rw [List.all_eq_true] at hok
      have := hok _ (List.getElem_mem hlt)
      rw [← rd_at T i hlt] at this
      simpa using this
    have hd1 := hexD_lt (rd T i)
    have hlow := low_tab ⟨(rd T i).toNat, by omega⟩
    simp only at hlow
    rw [show (((rd T i).toNat : Nat) : Int) = rd T i by omega] at hlow
    have h95 : rd T i ≠ 95 := fun e => by rw [e] at hd0; exact absurd hd0 (by decide)
    rw [drop_rd' T i hlt] at hR
    unfold hexA at hR
    have next : internal_strconv_ParseUint_L0 R (bytesOf T) (n * 16 + hexD (rd T i)) (IntKind.wrap .i64 ((i : Int) + 1)) := by
      rw [w64 (by omega) (by omega)]
      have := ih (i + 1) (n * 16 + hexD (rd T i)) (by omega) (by omega) (by omega) (by rw [hp1]; omega) hR
      simpa using this
    have e16 : IntKind.wrap .u8 16 = 16 := rfl
    have e16' : IntKind.wrap .u64 16 = 16 := rfl
    have em : IntKind.wrap .u64 ((IntKind.wrap .u64 (1 * (2 ^ (min (Int.toNat (IntKind.wrap .u64 32)) 64)))) - 1) = 4294967295 := by decide +kernel
    rw [map_bs, bs_of hT, ints_len, Int.toNat_natCast]
    refine ifB_t (by simp; omega) ⟨by omega, rd T i, by simp [ints, some_rd hlt], ifB_f (by simpa using h95) ?_⟩
    rw [e16, e16', em, wu64 (n := n * 16) (by omega) (by omega)]
    have letters : ¬ (48 ≤ rd T i ∧ rd T i ≤ 57) → lowV (rd T i) = hexD (rd T i) + 87 ∧ 10 ≤ hexD (rd T i) := by
      intro h
      refine ⟨hlow hd0 h, ?_⟩
      unfold hexD at hd0 ⊢
      rw [if_neg h] at hd0 ⊢
      revert hd0
      repeat' split
      all_goals omega
    by_cases hdig : 48 ≤ rd T i ∧ rd T i ≤ 57
    · have hD : hexD (rd T i) = rd T i - 48 := by unfold hexD; rw [if_pos hdig]
      rw [hD] at next
      refine ifB_t (by simp; omega) (ifB_t (by simp; omega) ?_)
      rw [wu8 (n := rd T i - 48) (by omega) (by omega), wu64 (n := rd T i - 48) (by omega) (by omega), wu64 (n := n * 16 + (rd T i - 48)) (by omega) (by omega)]
      exact ifB_f (by simp; omega) (ifB_f (by simp; omega) (ifB_f (by simp; omega) (ifB_f (by simp; omega) next)))
    · obtain ⟨hl, h10⟩ := letters hdig
      have hlo := lower_ok (rd T i)
      rw [hl] at hlo
      by_cases h48 : 48 ≤ rd T i
      · refine ifB_t (by simpa using h48) (ifB_f (by simp; omega) ⟨_, hlo, ?_⟩)
        refine ifB_t (by simp; omega) ⟨_, hlo, ifB_t (by simp; omega) ⟨_, hlo, ?_⟩⟩
        rw [wu8 (n := hexD (rd T i) + 87 - 97) (by omega) (by omega), wu8 (n := hexD (rd T i) + 87 - 97 + 10) (by omega) (by omega), wu64 (n := hexD (rd T i) + 87 - 97 + 10) (by omega) (by omega), wu64 (n := n * 16 + (hexD (rd T i) + 87 - 97 + 10)) (by omega) (by omega)]
        rw [show n * 16 + (hexD (rd T i) + 87 - 97 + 10) = n * 16 + hexD (rd T i) by omega]
        exact ifB_f (by simp; omega) (ifB_f (by simp; omega) (ifB_f (by simp; omega) (ifB_f (by simp; omega) next)))
      · refine ifB_f (by simp; omega) ⟨_, hlo, ?_⟩
        refine ifB_t (by simp; omega) ⟨_, hlo, ifB_t (by simp; omega) ⟨_, hlo, ?_⟩⟩
        rw [wu8 (n := hexD (rd T i) + 87 - 97) (by omega) (by omega), wu8 (n := hexD (rd T i) + 87 - 97 + 10) (by omega) (by omega), wu64 (n := hexD (rd T i) + 87 - 97 + 10) (by omega) (by omega), wu64 (n := n * 16 + (hexD (rd T i) + 87 - 97 + 10)) (by omega) (by omega)]
        rw [show n * 16 + (hexD (rd T i) + 87 - 97 + 10) = n * 16 + hexD (rd T i) by omega]
        exact ifB_f (by simp; omega) (ifB_f (by simp; omega) (ifB_f (by simp; omega) (ifB_f (by simp; omega) next)))
end Go.Proofs.YtejefchehdifhaaGreatDoor.Ev
end
section
set_option linter.unusedVariables false
set_option linter.unusedSimpArgs false
namespace Go.Proofs.YtejefchehdifhaaGreatDoor.Ev
open Go Go.RowKit
theorem chs_more : ∀ (f at_ : Nat) (l acc : List Int), (chs f l at_ acc).2 = -1 → l.length - at_ < f → acc.length ≤ (chs f l at_ acc).1.length ∧ (at_ < l.length → acc.length < (chs f l at_ acc).1.length)
  | 0, at_, l, acc, h, hf => by omega
  | f + 1, at_, l, acc, h, hf => by
    unfold chs at h ⊢
    split
    · exact ⟨Nat.le_refl _, fun h => by omega⟩
    · rename_i h1
      rw [if_neg h1] at h
      split
      · rename_i h2
        rw [if_pos h2] at h
        simp only at h
        omega
      · rename_i h2
        rw [if_neg h2] at h
        have hf2 : l.length - (at_ + (ch1 (l.drop at_)).2.toNat) < f ∨ (ch1 (l.drop at_)).2.toNat = 0 := by omega
        rcases hf2 with hf2 | hf2
        · have := (chs_more f _ l _ h hf2).1
          rw [List.length_append, List.length_singleton] at this
          exact ⟨by omega, fun _ => by omega⟩
        · exfalso
          have h3 : (ch1 (l.drop at_)).2 < 0 := by omega
          revert h3
          unfold ch1 chN
          repeat' split
          all_goals (simp only; omega)
theorem chs_snd : ∀ (f at_ : Nat) (l acc : List Int), (chs f l at_ acc).2 = -1 ∨ 0 ≤ (chs f l at_ acc).2
  | 0, at_, l, acc => .inl rfl
  | f + 1, at_, l, acc => by
    unfold chs
    split
    · exact .inl rfl
    · split
      · right; simp only; omega
      · exact chs_snd f _ l _
theorem chars_snd (T : List Int) : (chars T).2 = -1 ∨ 0 ≤ (chars T).2 := chs_snd _ _ _ _
def oneB (T : List Int) : Bool := decide (T ≠ [] ∧ (ch1 T).2 = (T.length : Int))
theorem chars_one {T : List Int} (hT : Bytes T) : ((chars T).2 = -1 ∧ (chars T).1.length = 1) ↔ oneB T = true := by
  unfold oneB
  rw [decide_eq_true_eq]
  cases T with
  | nil => simp [chars, chs]
  | cons x r =>
    have hb := ch1_bounds hT (by simp)
    have hd : (x :: r).drop 0 = x :: r := rfl
    unfold chars
    rw [show (x :: r).length + 1 = (r.length + 1) + 1 from rfl]
    unfold chs
    rw [if_neg (by simp), hd]
    by_cases h0 : (ch1 (x :: r)).2 = 0
    · rw [if_pos h0]
      simp only [List.length_cons] at hb ⊢
      constructor
      · rintro ⟨h, _⟩; simp at h
      · rintro ⟨_, h⟩; omega
    · rw [if_neg h0]
      constructor
      · rintro ⟨h1, h2⟩
        refine ⟨by simp, ?_⟩
        by_cases hlt : 0 + (ch1 (x :: r)).2.toNat < (x :: r).length
        · have := (chs_more (r.length + 1) _ _ _ h1 (by simp at hb ⊢; omega)).2 hlt
          simp only [List.length_append, List.length_nil, List.length_singleton] at this
          omega
        · omega
      · rintro ⟨_, h⟩
        unfold chs
        rw [if_pos (by omega)]
        simp
theorem chars_val {T : List Int} (h : oneB T = true) : rd (chars T).1 0 = (ch1 T).1 := by
  unfold oneB at h
  rw [decide_eq_true_eq] at h
  cases T with
  | nil => simp at h
  | cons x r =>
    have hd : (x :: r).drop 0 = x :: r := rfl
    unfold chars
    rw [show (x :: r).length + 1 = (r.length + 1) + 1 from rfl]
    unfold chs
    rw [if_neg (by simp), hd, if_neg (by have := h.2; simp at this; omega)]
    unfold chs
    rw [if_pos (by omega)]
    rfl
theorem namedV_one {T : List Int} (hT : Bytes T) (h : oneB T = true) : rd (chars T).1 0 = (ch1 T).1 ∧ 0 ≤ (ch1 T).1 := by
  refine ⟨chars_val h, ?_⟩
  unfold oneB at h
  rw [decide_eq_true_eq] at h
  exact (ch1_bounds hT h.1).1
abbrev namT (v : Int) : TV := .tup [(false, [.fz (.int .i64 (if 0 ≤ v then v else 0))]), (false, [.fz (.bool (decide (0 ≤ v)))])]
theorem namT_ok {v : Int} (h : 0 ≤ v) : namT v = .tup [(false, [.fz (.int .i64 v)]), (false, [.fz (.bool true)])] := by unfold namT; rw [if_pos h, decide_eq_true h]
theorem namT_bad {v : Int} (h : v < 0) : namT v = .tup [(false, [.fz (.int .i64 0)]), (false, [.fz (.bool false)])] := by unfold namT; rw [if_neg (by omega), decide_eq_false (by omega)]
theorem nm_r {T : List Int} (hT : Bytes T) (a : Array UInt8) (l : List Int) (hl : Bytes l) (h : ByteArray.mk a = bytesOf l) : (ByteArray.toList (bytesOf T) == ByteArray.toList (ByteArray.mk a)) = decide (T = l) := by
  rw [h]; exact eq_bytes hT hl
theorem nm_l {T : List Int} (hT : Bytes T) (a : Array UInt8) (l : List Int) (hl : Bytes l) (h : ByteArray.mk a = bytesOf l) : (ByteArray.toList (ByteArray.mk a) == ByteArray.toList (bytesOf T)) = decide (l = T) := by
  rw [h]; exact eq_bytes hl hT
theorem nm0 : Bytes [115, 112, 97, 99, 101] ∧ ByteArray.mk #[115, 112, 97, 99, 101] = bytesOf [115, 112, 97, 99, 101] := ⟨by intro x hx; simp at hx; omega, by decide +kernel⟩
theorem nm1 : Bytes [110, 101, 119, 108, 105, 110, 101] ∧ ByteArray.mk #[110, 101, 119, 108, 105, 110, 101] = bytesOf [110, 101, 119, 108, 105, 110, 101] := ⟨by intro x hx; simp at hx; omega, by decide +kernel⟩
theorem nm2 : Bytes [116, 97, 98] ∧ ByteArray.mk #[116, 97, 98] = bytesOf [116, 97, 98] := ⟨by intro x hx; simp at hx; omega, by decide +kernel⟩
theorem nm3 : Bytes [114, 101, 116, 117, 114, 110] ∧ ByteArray.mk #[114, 101, 116, 117, 114, 110] = bytesOf [114, 101, 116, 117, 114, 110] := ⟨by intro x hx; simp at hx; omega, by decide +kernel⟩
theorem nm4 : Bytes [110, 117, 108, 108] ∧ ByteArray.mk #[110, 117, 108, 108] = bytesOf [110, 117, 108, 108] := ⟨by intro x hx; simp at hx; omega, by decide +kernel⟩
theorem nm5 : Bytes [100, 101, 108, 101, 116, 101] ∧ ByteArray.mk #[100, 101, 108, 101, 116, 101] = bytesOf [100, 101, 108, 101, 116, 101] := ⟨by intro x hx; simp at hx; omega, by decide +kernel⟩
theorem rNamed_ok (T : List Int) (hT : Bytes T) (hlen : T.length ≤ 16777216) : Fn Tryz.prog 45 [.one (.fz (.str (bytesOf T)))] [] (namT (namedV T)) [] := by
  refine ref02_Named_fn _ ?_
  obtain ⟨R, hR, hRe⟩ := exR (namT (namedV T)); rw [hRe]; clear hRe
  unfold namedV at hR
  unfold ref02_Named_H
  rw [nm_r hT _ _ nm0.1 nm0.2, dec_t, dec_f]
  refine ⟨fun h => (by rw [if_pos h, namT_ok (by omega)] at hR; exact hR), fun n0 => ?_⟩
  rw [if_neg n0] at hR
  rw [nm_r hT _ _ nm1.1 nm1.2, dec_t, dec_f]
  refine ⟨fun h => (by rw [if_pos h, namT_ok (by omega)] at hR; exact hR), fun n1 => ?_⟩
  rw [if_neg n1] at hR
  rw [nm_r hT _ _ nm2.1 nm2.2, dec_t, dec_f]
  refine ⟨fun h => (by rw [if_pos h, namT_ok (by omega)] at hR; exact hR), fun n2 => ?_⟩
  rw [if_neg n2] at hR
  rw [nm_r hT _ _ nm3.1 nm3.2, dec_t, dec_f]
  refine ⟨fun h => (by rw [if_pos h, namT_ok (by omega)] at hR; exact hR), fun n3 => ?_⟩
  rw [if_neg n3] at hR
  rw [nm_r hT _ _ nm4.1 nm4.2, dec_t, dec_f]
  refine ⟨fun h => (by rw [if_pos h, namT_ok (by omega)] at hR; exact hR), fun n4 => ?_⟩
  rw [if_neg n4] at hR
  rw [nm_r hT _ _ nm5.1 nm5.2, dec_t, dec_f]
  refine ⟨fun h => (by rw [if_pos h, namT_ok (by omega)] at hR; exact hR), fun n5 => ?_⟩
  rw [if_neg n5] at hR
  have hC := rChars_ok T hT (by omega)
  rw [map_bs, bs_of hT]
  refine ⟨_, _, hC, ?_⟩
  simp only [dec_t, dec_f, ints_len]
  by_cases hm : (chars T).2 = -1
  · have e : chL T = (chars T).1 := if_pos hm
    rw [e, hm, beq_t, beq_f]
    refine ⟨fun _ => ⟨fun h1 => ⟨by omega, rd (chars T).1 0, ?_, ?_⟩, fun h1 => ?_⟩, fun h => absurd (by omega) h⟩
    · simp [ints, some_rd (show 0 < (chars T).1.length by omega)]
    · rw [if_pos ⟨hm, by omega⟩] at hR
      obtain ⟨q1, q2⟩ := namedV_one hT ((chars_one hT).1 ⟨hm, by omega⟩)
      rw [namT_ok (by omega)] at hR
      exact hR
    have ht : R (namT (if 2 ≤ T.length ∧ rd T 0 = 120 then hexV (T.drop 1) else -1)) [] := by rw [if_neg (fun hx => h1 (by omega))] at hR; exact hR
    simp only [size_of, dec_t, dec_f, beq_t, beq_f]
    refine ⟨fun h2 => ?_, fun h2 => ?_⟩
    · obtain ⟨c, hc, hcv⟩ := byte_at hT (i := 0) (by omega)
      refine ⟨by omega, c, hc, ?_⟩
      rw [hcv]
      refine ⟨fun h120 => ⟨⟨by omega, by omega⟩, ?_⟩, fun h120 => ?_⟩
      · rw [if_pos ⟨by omega, h120⟩] at ht
        have hx := rHex_ok (T.drop 1) (drop_bytes hT 1) (by simp; omega)
        have e1 : (bytesOf T).extract (Int.toNat 1) T.length = bytesOf (T.drop 1) := by
          rw [extract_of, show Int.toNat 1 = 1 from rfl, List.take_of_length_le (by simp)]
        rw [e1]
        refine ⟨_, hx, ?_⟩
        refine ⟨fun h0 => ?_, fun h0 => ?_⟩
        · rw [namT_ok h0] at ht; exact ht
        · rw [namT_bad (by omega)] at ht; exact ht
      · rw [if_neg (fun hx => h120 hx.2), namT_bad (by omega)] at ht; exact ht
    · rw [if_neg (by omega), namT_bad (by omega)] at ht; exact ht
  · have hg := chars_snd T
    refine ⟨fun h => absurd h (by omega), fun _ => ?_⟩
    have ht : R (namT (if 2 ≤ T.length ∧ rd T 0 = 120 then hexV (T.drop 1) else -1)) [] := by rw [if_neg (fun hx => hm hx.1)] at hR; exact hR
    simp only [size_of, dec_t, dec_f, beq_t, beq_f]
    refine ⟨fun h2 => ?_, fun h2 => ?_⟩
    · obtain ⟨c, hc, hcv⟩ := byte_at hT (i := 0) (by omega)
      refine ⟨by omega, c, hc, ?_⟩
      rw [hcv]
      refine ⟨fun h120 => ⟨⟨by omega, by omega⟩, ?_⟩, fun h120 => ?_⟩
      · rw [if_pos ⟨by omega, h120⟩] at ht
        have hx := rHex_ok (T.drop 1) (drop_bytes hT 1) (by simp; omega)
        have e1 : (bytesOf T).extract (Int.toNat 1) T.length = bytesOf (T.drop 1) := by
          rw [extract_of, show Int.toNat 1 = 1 from rfl, List.take_of_length_le (by simp)]
        rw [e1]
        refine ⟨_, hx, ?_⟩
        refine ⟨fun h0 => ?_, fun h0 => ?_⟩
        · rw [namT_ok h0] at ht; exact ht
        · rw [namT_bad (by omega)] at ht; exact ht
      · rw [if_neg (fun hx => h120 hx.2), namT_bad (by omega)] at ht; exact ht
    · rw [if_neg (by omega), namT_bad (by omega)] at ht; exact ht
theorem slPrefix_ok (T : List Int) (hT : Bytes T) (hlen : T.length ≤ 16777216) : Fn Tryz.prog 88 [.one (.fz (.str (bytesOf T))), .one (.fz (.str (ByteArray.mk #[120])))] [] (fzB (decide (T.head? = some 120))) [] := by
  refine internal_stringslite_HasPrefix_fn _ _ ?_
  obtain ⟨R, hR, hRe⟩ := exR (fzB (decide (T.head? = some 120))); rw [hRe]; clear hRe
  unfold internal_stringslite_HasPrefix_H
  have e1 : ((ByteArray.size (ByteArray.mk #[120]) : Nat) : Int) = 1 := rfl
  rw [e1, size_of, dec_t, dec_f, show Int.toNat 1 = 1 from rfl]
  refine ⟨fun h => ⟨⟨by omega, by omega⟩, ?_⟩, fun h => ?_⟩
  · have e2 : ByteArray.mk #[120] = bytesOf [120] := by decide +kernel
    have hb : Bytes (((T.drop 0).take (1 - 0))) := fun x hx => hT x (List.mem_of_mem_drop (List.mem_of_mem_take hx))
    rw [extract_of, e2, eq_bytes hb (by intro x hx; simp at hx; omega)]
    cases T with
    | nil => simp at h
    | cons x r => simpa using hR
  · cases T with
    | nil => simpa using hR
    | cons x r => simp at h; omega
abbrev cutR (T : List Int) : TV := .tup [(false, [.fz (.str (bytesOf (if T.head? = some 120 then T.drop 1 else T)))]), (false, [.fz (.bool (decide (T.head? = some 120)))])]
theorem slCut_ok (T : List Int) (hT : Bytes T) (hlen : T.length ≤ 16777216) : Fn Tryz.prog 171 [.one (.fz (.str (bytesOf T))), .one (.fz (.str (ByteArray.mk #[120])))] [] (cutR T) [] := by
  refine internal_stringslite_CutPrefix_fn _ _ ?_
  obtain ⟨R, hR, hRe⟩ := exR (cutR T); rw [hRe]; clear hRe
  unfold internal_stringslite_CutPrefix_H
  refine ⟨_, slPrefix_ok T hT hlen, ?_⟩
  have e1 : ((ByteArray.size (ByteArray.mk #[120]) : Nat) : Int) = 1 := rfl
  unfold cutR at hR
  rw [not_t, not_f, dec_f, dec_t, e1, size_of, show Int.toNat 1 = 1 from rfl]
  refine ⟨fun h => ?_, fun h => ?_⟩
  · rw [if_neg h, decide_eq_false h] at hR; exact hR
  · rw [if_pos h, decide_eq_true h] at hR
    have hl : 1 ≤ T.length := by cases T with
      | nil => simp at h
      | cons x r => simp
    refine ⟨⟨by omega, by omega⟩, ?_⟩
    rw [extract_of, List.take_of_length_le (by simp)]
    exact hR
theorem cutPrefix_ok (T : List Int) (hT : Bytes T) (hlen : T.length ≤ 16777216) : Fn Tryz.prog 154 [.one (.fz (.str (bytesOf T))), .one (.fz (.str (ByteArray.mk #[120])))] [] (cutR T) [] := by
  refine strings_CutPrefix_fn _ _ ?_
  unfold strings_CutPrefix_H
  exact ⟨_, _, slCut_ok T hT hlen, rfl, rfl⟩
theorem pHexI_ok (T : List Int) (hT : Bytes T) (hlen : T.length ≤ 6) (hne : T ≠ []) (hok : hexOk T = true) : Fn Tryz.prog 158 [.one (.fz (.str (bytesOf T))), fzI .i64 16, fzI .i64 32] [] (puT (hexA T 0) false) [] := by
  refine internal_strconv_ParseUint_fn _ ?_
  unfold internal_strconv_ParseUint_H
  have e : (ByteArray.toList (bytesOf T) == ByteArray.toList (ByteArray.mk #[])) = false := by
    have := eq_bytes (m := []) hT Bytes.nil
    rw [show (ByteArray.mk #[]) = bytesOf [] from rfl, this]
    simpa using hne
  refine ifB_f e ⟨by decide, ?_⟩
  exact pHex_loop T hT hlen hok _ _ 0 0 rfl (Nat.zero_le _) (by omega) (by simp) ⟨rfl, rfl⟩
theorem pHex_ok (T : List Int) (hT : Bytes T) (hlen : T.length ≤ 6) (hne : T ≠ []) (hok : hexOk T = true) : Fn Tryz.prog 155 [.one (.fz (.str (bytesOf T))), fzI .i64 16, fzI .i64 32] [] (puT (hexA T 0) false) [] := by
  refine strconv_ParseUint_fn _ ?_
  unfold strconv_ParseUint_H
  exact ⟨_, _, pHexI_ok T hT hlen hne hok, ifB_f rfl ⟨rfl, rfl⟩⟩
theorem DecodeInString_fn (T : List Int) : Fn Tryz.prog 64 [.one (.fz (.str (bytesOf T)))] [] (.tup [(false, [.fz (.int .i32 (deR T))]), (false, [.fz (.int .i64 (deN T))])]) [] := by
  intro ext w locs vals H hsz hrep
  obtain ⟨v, hv, hr⟩ := hrep 0 _ rfl
  have e : vals = #[v] := by
    apply Array.ext
    · simpa using hsz
    · intro i h1 h2
      have : i = 0 := by simp at h2; omega
      subst this
      rw [Array.getElem?_eq_getElem h1] at hv
      simpa using hv
  subst e
  replace hr : RF w (Bar ext locs []) (.str (bytesOf T)) v := hr
  cases hr
  refine (Tryz.utf8_DecodeRuneInString (bytesOf T) w (utf_tabs H.glob)).mono ?_
  rintro e w' ⟨rfl, hb⟩
  refine ⟨.tuple #[.int .i32 (deR T), .int .i64 (deN T)], locs, rfl, H.below hb, #[.int .i32 (deR T), .int .i64 (deN T)], rfl, rfl, fun i b' cs hi => ?_⟩
  match i with
  | 0 =>
    cases hi
    refine ⟨.int .i32 (deR T), rfl, [.int .i32 (deR T)], rfl, rfl, fun _ => rfl, fun j x hj => ?_⟩
    cases j with
    | zero => cases hj; exact ⟨_, rfl, .int _ _⟩
    | succ j => simp at hj
  | 1 =>
    cases hi
    refine ⟨.int .i64 (deN T), rfl, [.int .i64 (deN T)], rfl, rfl, fun _ => rfl, fun j x hj => ?_⟩
    cases j with
    | zero => cases hj; exact ⟨_, rfl, .int _ _⟩
    | succ j => simp at hj
  | i + 2 => simp at hi
theorem uNamed_ok (T : List Int) (hT : Bytes T) (hlen : T.length ≤ 16777216) : Fn Tryz.prog 131 [.one (.fz (.str (bytesOf T)))] [] (namT (namedV T)) [] := by
  refine utf_Named_fn _ ?_
  obtain ⟨R, hR, hRe⟩ := exR (namT (namedV T)); rw [hRe]; clear hRe
  unfold namedV at hR
  unfold utf_Named_H
  refine utf_Named_l0 ?_
  unfold utf_Named_R0
  refine ⟨fun _ => ⟨by omega, 32, ByteArray.mk #[115, 112, 97, 99, 101], rfl, ?_, ?_⟩, fun h => absurd h (by decide)⟩ <;> rw [nm_l hT _ _ nm0.1 nm0.2]
  · exact fun h => (by rw [if_pos (of_decide_eq_true h).symm, namT_ok (by omega)] at hR; exact hR)
  intro n0
  replace n0 : ¬ T = [115, 112, 97, 99, 101] := fun h => of_decide_eq_false n0 h.symm
  rw [if_neg n0] at hR
  rw [w64 (by omega) (by omega)]
  refine utf_Named_l0 ?_
  unfold utf_Named_R0
  refine ⟨fun _ => ⟨by omega, 10, ByteArray.mk #[110, 101, 119, 108, 105, 110, 101], rfl, ?_, ?_⟩, fun h => absurd h (by decide)⟩ <;> rw [nm_l hT _ _ nm1.1 nm1.2]
  · exact fun h => (by rw [if_pos (of_decide_eq_true h).symm, namT_ok (by omega)] at hR; exact hR)
  intro n1
  replace n1 : ¬ T = [110, 101, 119, 108, 105, 110, 101] := fun h => of_decide_eq_false n1 h.symm
  rw [if_neg n1] at hR
  rw [w64 (by omega) (by omega)]
  refine utf_Named_l0 ?_
  unfold utf_Named_R0
  refine ⟨fun _ => ⟨by omega, 9, ByteArray.mk #[116, 97, 98], rfl, ?_, ?_⟩, fun h => absurd h (by decide)⟩ <;> rw [nm_l hT _ _ nm2.1 nm2.2]
  · exact fun h => (by rw [if_pos (of_decide_eq_true h).symm, namT_ok (by omega)] at hR; exact hR)
  intro n2
  replace n2 : ¬ T = [116, 97, 98] := fun h => of_decide_eq_false n2 h.symm
  rw [if_neg n2] at hR
  rw [w64 (by omega) (by omega)]
  refine utf_Named_l0 ?_
  unfold utf_Named_R0
  refine ⟨fun _ => ⟨by omega, 13, ByteArray.mk #[114, 101, 116, 117, 114, 110], rfl, ?_, ?_⟩, fun h => absurd h (by decide)⟩ <;> rw [nm_l hT _ _ nm3.1 nm3.2]
  · exact fun h => (by rw [if_pos (of_decide_eq_true h).symm, namT_ok (by omega)] at hR; exact hR)
  intro n3
  replace n3 : ¬ T = [114, 101, 116, 117, 114, 110] := fun h => of_decide_eq_false n3 h.symm
  rw [if_neg n3] at hR
  rw [w64 (by omega) (by omega)]
  refine utf_Named_l0 ?_
  unfold utf_Named_R0
  refine ⟨fun _ => ⟨by omega, 0, ByteArray.mk #[110, 117, 108, 108], rfl, ?_, ?_⟩, fun h => absurd h (by decide)⟩ <;> rw [nm_l hT _ _ nm4.1 nm4.2]
  · exact fun h => (by rw [if_pos (of_decide_eq_true h).symm, namT_ok (by omega)] at hR; exact hR)
  intro n4
  replace n4 : ¬ T = [110, 117, 108, 108] := fun h => of_decide_eq_false n4 h.symm
  rw [if_neg n4] at hR
  rw [w64 (by omega) (by omega)]
  refine utf_Named_l0 ?_
  unfold utf_Named_R0
  refine ⟨fun _ => ⟨by omega, 127, ByteArray.mk #[100, 101, 108, 101, 116, 101], rfl, ?_, ?_⟩, fun h => absurd h (by decide)⟩ <;> rw [nm_l hT _ _ nm5.1 nm5.2]
  · exact fun h => (by rw [if_pos (of_decide_eq_true h).symm, namT_ok (by omega)] at hR; exact hR)
  intro n5
  replace n5 : ¬ T = [100, 101, 108, 101, 116, 101] := fun h => of_decide_eq_false n5 h.symm
  rw [if_neg n5] at hR
  rw [w64 (by omega) (by omega)]
  refine utf_Named_l0 ?_
  unfold utf_Named_R0
  refine ⟨fun h => absurd h (by decide), fun _ => ⟨_, _, DecodeInString_fn T, ?_⟩⟩
  rw [size_of]
  by_cases h1 : oneB T = true
  · have hc := (chars_one hT).2 h1
    obtain ⟨q1, q2⟩ := namedV_one hT h1
    rw [if_pos hc, q1, namT_ok q2] at hR
    have h1' := h1
    unfold oneB at h1'
    rw [decide_eq_true_eq] at h1'
    have hl : T.length ≠ 0 := fun e => h1'.1 (List.length_eq_zero_iff.1 e)
    rcases de_ch1 hT h1'.1 with ⟨c1, c2, c3⟩ | ⟨c1, c2⟩
    · rw [c1] at h1'; simp at h1'; omega
    · have g1 : (ch1 T).1 = deR T := by rw [c1]
      have g2 : (ch1 T).2 = deN T := by rw [c1]
      have hb := ch1_bounds hT h1'.1
      rw [g1] at hR q2 hb
      simp only [beq_t, beq_f, dec_t, dec_f, bne_t, bne_f, w64 (n := deR T) (by omega) (by omega)]
      refine ⟨fun _ => ⟨fun _ => ⟨fun _ => hR, fun h => ⟨fun _ => hR, fun h => by omega⟩⟩, fun h => by omega⟩, fun h => by omega⟩
  · have hc : ¬ ((chars T).2 = -1 ∧ (chars T).1.length = 1) := fun h => h1 ((chars_one hT).1 h)
    rw [if_neg hc] at hR
    have ht := hR
    have hx1 : T ≠ [120] := fun e => h1 (by rw [e]; decide +kernel)
    have head_rd' : (2 ≤ T.length ∧ rd T 0 = 120) → T.head? = some 120 := fun hx => by
      cases T with
      | nil => simp at hx
      | cons x r => simpa [rd] using hx.2
    have tailG : ∀ G : Prop, (R (namT (if 2 ≤ T.length ∧ rd T 0 = 120 then hexV (T.drop 1) else -1)) [] → G) → G := fun G h => h ht
    simp only [beq_t, beq_f, dec_t, dec_f, bne_t, bne_f]
    have no : ¬ (deN T = (T.length : Int) ∧ 0 < deN T ∧ (deR T ≠ 65533 ∨ 1 < deN T)) := by
      rintro ⟨a1, a2, a3⟩
      have hne : T ≠ [] := fun e => by rw [e] at a1 a2; simp at a1; omega
      rcases de_ch1 hT hne with ⟨c1, c2, c3⟩ | ⟨c1, c2⟩
      · omega
      · refine h1 ?_
        unfold oneB
        rw [decide_eq_true_eq, c1]
        exact ⟨hne, a1⟩
    refine ⟨fun a1 => ⟨fun a2 => ⟨fun a3 => absurd ⟨a1, a2, .inl a3⟩ no, fun a3 => ⟨fun a4 => absurd ⟨a1, a2, .inr a4⟩ no, fun a4 => ?_⟩⟩, fun a2 => ?_⟩, fun a1 => ?_⟩
    all_goals
      refine ⟨_, _, cutPrefix_ok T hT hlen, ?_⟩
      simp only [not_t, not_f, dec_t, dec_f]
      refine ⟨fun hp => ?_, fun hp => ?_⟩
      · rw [if_neg (fun hx => hp (head_rd' hx)), namT_bad (by omega)] at ht; exact ht
      · have hl : T ≠ [] := fun e => by rw [e] at hp; simp at hp
        have h120 : rd T 0 = 120 := by cases T with
          | nil => simp at hp
          | cons x r => simpa [rd] using hp
        rw [if_pos hp]
        simp only [size_of]
        have hl2 : 2 ≤ T.length := by
          cases T with
          | nil => simp at hl
          | cons x r => cases r with
            | nil => exact absurd (by simpa using hp) hx1
            | cons y r => simp
        rw [if_pos ⟨hl2, h120⟩] at ht
        unfold hexV at ht
        rw [List.length_drop] at ht ⊢
        refine ⟨fun h6 => ?_, fun h6 => ?_⟩
        · rw [if_neg (by omega), namT_bad (by omega)] at ht; exact ht
        · rw [if_pos (by omega), hexR_eq] at ht
          refine ⟨_, Trim_fn (bytesOf (T.drop 1)) _ (by rw [size_of]; simp; omega) (by decide) (by decide +kernel), ?_⟩
          rw [trim_hex (drop_bytes hT 1)]
          refine ⟨fun hx => ?_, fun hx => ?_⟩
          · rw [if_neg (by rw [hx]; simp), namT_bad (by omega)] at ht; exact ht
          · rw [if_pos hx] at ht
            have hb := hexA_bound (T.drop 1) 0 1 hx (by omega) (by omega)
            have p6 : (1 : Int) * 16 ^ (T.drop 1).length ≤ 16777216 := by
              have : (16 : Int) ^ 6 = 16777216 := by decide
              rw [Int.one_mul, ← this]
              exact pow_mono (by omega) (by simp; omega)
            refine ⟨_, _, pHex_ok (T.drop 1) (drop_bytes hT 1) (by simp; omega) (fun e => by have := congrArg List.length e; simp at this; omega) hx, ?_⟩
            refine ⟨fun h => absurd h (by decide), fun _ => ⟨_, uScalar_ok _, ?_⟩⟩
            rw [w64 (by omega) (by omega)]
            refine ⟨fun hs => ?_, fun hs => ?_⟩
            · rw [if_neg (by rw [hs]; simp), namT_bad (by omega)] at ht; exact ht
            · rw [if_pos hs, namT_ok (by omega)] at ht; exact ht
end Go.Proofs.YtejefchehdifhaaGreatDoor.Ev
end
section
set_option linter.unusedVariables false
set_option linter.unusedSimpArgs false
namespace Go.Proofs.YtejefchehdifhaaGreatDoor.Ev
open Go
abbrev scM (t : List Int) (p : Nat) : List Ob := [.g 66 [.fz (.sl 1 (ints .i64 t)), .fz (.int .i64 ((p : Nat) : Int))]]
abbrev scP : TV := .one (.ptr 0 0 0 66)
theorem pkL_lt {l : List Int} {i : Nat} (h : i < l.length) : pkL l i = rd l i := if_pos h
theorem pkL_ge {l : List Int} {i : Nat} (h : l.length ≤ i) : pkL l i = -1 := if_neg (by omega)
theorem sLeft_ok (t : List Int) (p n : Nat) (hp : p ≤ 1000000000) (hn : n ≤ 1000000000) : Fn Tryz.prog 36 [scP, fzI .i64 ((n : Nat) : Int)] (scM t p) (fzB (decide (p + n ≤ t.length))) (scM t p) := by
  refine token_scanner_leftO_fn _ _ _ ?_
  obtain ⟨R, hR, hRe⟩ := exW (fzB (decide (p + n ≤ t.length))) (scM t p); rw [hRe]; clear hRe
  unfold token_scanner_leftO_H
  rw [w64 (by omega) (by omega), ints_len]
  have : decide ((p : Int) + (n : Int) ≤ (t.length : Int)) = decide (p + n ≤ t.length) := by rw [decide_eq_decide]; omega
  rw [this]
  exact hR _ (Wk.refl _)
theorem sPeek_ok (t : List Int) (p n : Nat) (hp : p ≤ 1000000000) (hn : n ≤ 1000000) : Fn Tryz.prog 76 [scP, fzI .i64 ((n : Nat) : Int)] (scM t p) (fzI .i64 (pkL t (p + n))) (scM t p) := by
  refine token_scanner_peekO_fn _ _ _ ?_
  obtain ⟨R, hR, hRe⟩ := exW (fzI .i64 (pkL t (p + n))) (scM t p); rw [hRe]; clear hRe
  unfold token_scanner_peekO_H
  have hl := sLeft_ok t p (n + 1) hp (by omega)
  rw [show ((n + 1 : Nat) : Int) = (n : Int) + 1 by omega] at hl
  rw [w64 (n := (n : Int) + 1) (by omega) (by omega)]
  refine ⟨_, _, _, hl, ?_⟩
  simp only [not_t, not_f, dec_t, dec_f, decide_eq_true_eq, decide_eq_false_iff_not]
  refine ⟨fun h => ?_, fun h => ?_⟩
  · rw [pkL_ge (by omega)] at hR; exact hR _ (Wk.refl _)
  · rw [pkL_lt (by omega)] at hR
    rw [w64 (by omega) (by omega)]
    exact ⟨by omega, rd t (p + n), by rw [show Int.toNat ((p : Int) + (n : Int)) = p + n by omega]; simp [ints, some_rd (show p + n < t.length by omega)], hR _ (Wk.refl _)⟩
theorem sBlanks_loop (t : List Int) (hlen : t.length ≤ 100000000) (R : TV → List Ob → Prop) : ∀ (m q : Nat), t.length - q = m → q ≤ t.length →
    ((∀ h', Wk h' (scM t (q + blC false (t.drop q))) → R (.tup []) h') → token_scanner_blanksO_L0 R (ints .i64 t) q) ∧
    ((∀ h', Wk h' (scM t (q + blC true (t.drop q))) → R (.tup []) h') → token_scanner_blanksO_L1 R (ints .i64 t) q) := by
  intro m
  induction m with
  | zero =>
    intro q hq hle
    have hd : t.drop q = [] := List.drop_eq_nil_of_le (by omega)
    have hp := sPeek_ok t q 0 (by omega) (by omega)
    rw [pkL_ge (by omega)] at hp
    have h0 : (∀ h', Wk h' (scM t q) → R (.tup []) h') → token_scanner_blanksO_L0 R (ints .i64 t) q := fun hR => by
      refine token_scanner_blanksO_l0 ?_
      unfold token_scanner_blanksO_R0
      refine ⟨_, _, _, hp, fun h => absurd h (by decide), fun _ => ⟨fun h => absurd h (by decide), fun _ => hR _ (Wk.refl _)⟩⟩
    refine ⟨fun hR => ?_, fun hR => ?_⟩
    · rw [hd] at hR; exact h0 hR
    · rw [hd] at hR
      refine token_scanner_blanksO_l1 ?_
      unfold token_scanner_blanksO_R1
      refine ⟨_, _, _, sLeft_ok t q 1 (by omega) (by omega), fun h => ?_, fun _ => h0 hR⟩
      simp at h; omega
  | succ m ih =>
    intro q hq hle
    have hlt : q < t.length := by omega
    have hp := sPeek_ok t q 0 (by omega) (by omega)
    rw [Nat.add_zero, pkL_lt hlt] at hp
    have hl := sLeft_ok t q 1 (by omega) (by omega)
    rw [decide_eq_true (by omega)] at hl
    have hd := drop_rd' t q hlt
    obtain ⟨ih0, ih1⟩ := ih (q + 1) (by omega) (by omega)
    have e : IntKind.wrap .i64 ((q : Int) + 1) = ((q + 1 : Nat) : Int) := w64 (by omega) (by omega)
    have h0 : (∀ h', Wk h' (scM t (q + blC false (t.drop q))) → R (.tup []) h') → token_scanner_blanksO_L0 R (ints .i64 t) q := fun hR => by
      rw [hd] at hR
      unfold blC at hR
      refine token_scanner_blanksO_l0 ?_
      unfold token_scanner_blanksO_R0
      refine ⟨_, _, _, hp, ?_⟩
      simp only [dec_t, dec_f, beq_t, beq_f, e]
      have semi : rd t q = 59 → token_scanner_blanksO_L1 R (ints .i64 t) q := fun h => by
        rw [if_neg (by rw [h]; decide), if_pos h] at hR
        refine token_scanner_blanksO_l1 ?_
        unfold token_scanner_blanksO_R1
        refine ⟨_, _, _, hl, fun _ => ⟨_, _, _, hp, ?_⟩, fun h => absurd h (by decide)⟩
        simp only [bne_t, bne_f, e]
        refine ⟨fun _ => ih1 ?_, fun h => by omega⟩
        rw [show q + (blC true (t.drop (q + 1)) + 1) = q + 1 + blC true (t.drop (q + 1)) by omega] at hR
        exact hR
      have out : blankB (rd t q) = false → rd t q ≠ 59 → R (.tup []) (scM t q) := fun h1 h2 => by
        rw [if_neg (by rw [h1]; simp), if_neg h2] at hR
        exact hR _ (Wk.refl _)
      refine ⟨fun _ => ⟨_, uBlank_ok _, fun hb => ?_, fun hb => ⟨semi, out hb⟩⟩, fun h => ⟨semi, out ?_⟩⟩
      · rw [if_pos hb, show q + (blC false (t.drop (q + 1)) + 1) = q + 1 + blC false (t.drop (q + 1)) by omega] at hR
        exact ih0 hR
      · unfold blankB; rw [decide_eq_false_iff_not]; omega
    refine ⟨h0, fun hR => ?_⟩
    refine token_scanner_blanksO_l1 ?_
    unfold token_scanner_blanksO_R1
    refine ⟨_, _, _, hl, fun _ => ⟨_, _, _, hp, ?_⟩, fun h => absurd h (by decide)⟩
    simp only [bne_t, bne_f, e]
    refine ⟨fun h => ih1 ?_, fun h => h0 ?_⟩
    · rw [hd] at hR
      unfold blC at hR
      rw [if_neg h, show q + (blC true (t.drop (q + 1)) + 1) = q + 1 + blC true (t.drop (q + 1)) by omega] at hR
      exact hR
    · have hb : blC true (t.drop q) = blC false (t.drop q) := by
        rw [hd, h]; rfl
      rw [← hb]; exact hR
theorem sBlanks_ok (t : List Int) (hlen : t.length ≤ 100000000) (q : Nat) (hq : q ≤ t.length) : Fn Tryz.prog 35 [scP] (scM t q) (.tup []) (scM t (q + blC false (t.drop q))) := by
  refine token_scanner_blanksO_fn _ _ ?_
  obtain ⟨R, hR, hRe⟩ := exW (.tup []) (scM t (q + blC false (t.drop q))); rw [hRe]; clear hRe
  unfold token_scanner_blanksO_H
  exact (sBlanks_loop t hlen R _ q rfl hq).1 hR
theorem enc_map (l : List Int) : ints .u8 (enc l) = List.map (fun n => [FV.int .u8 n]) (enc l) := rfl
theorem sWhile_loop (t : List Int) (hs : Scals t) (hlen : t.length ≤ 100000000) (p : Nat) (R : TV → List Ob → Prop) : ∀ (m q : Nat), t.length - q = m → q ≤ t.length → p ≤ q →
    (∀ h', Wk h' (scM t (q + untilN (t.drop q))) → R (.one (.fz (.str (bytesOf (enc ((t.drop p).take (q + untilN (t.drop q) - p))))))) h') → token_scanner_whileO_L0 R p (ints .i64 t) q := by
  intro m
  have fin : ∀ q, q ≤ t.length → p ≤ q → ∀ G : TV → List Ob → Prop, (∀ h', Wk h' (scM t q) → G (.one (.fz (.str (bytesOf (enc ((t.drop p).take (q - p))))))) h') →
      ((0 : Int) ≤ (p : Int) ∧ (p : Int) ≤ (q : Int) ∧ (q : Int) ≤ (((ints .i64 t).length : Nat) : Int)) ∧ ∃ es10 : List (List FV), ∃ n18 : Int, (Fn Tryz.prog 129 [.one (.fz (.sl 1 (List.drop (Int.toNat p) (List.take (Int.toNat q) (ints .i64 t)))))] [] (.tup [(false, [.fz (.sl 1 es10)]), (false, [.fz (.int .i64 n18)])]) []) ∧ ∃ ns4 : List Int, (es10 = List.map (fun n19 => [FV.int .u8 n19]) ns4) ∧ G (.one (.fz (.str (bytesOf ns4)))) (scM t q) := by
    intro q h1 h2 G hG
    rw [ints_len, Int.toNat_natCast, Int.toNat_natCast, ints_take, ints_drop]
    have e1 : (t.take q).drop p = (t.drop p).take (q - p) := List.drop_take
    rw [e1]
    exact ⟨⟨by omega, by omega, by omega⟩, _, _, uEncode_ok _ ((hs.drop p).take _) (by simp; omega), _, enc_map _, hG _ (Wk.refl _)⟩
  induction m with
  | zero =>
    intro q hq hle hpq hR
    rw [List.drop_eq_nil_of_le (show t.length ≤ q by omega)] at hR
    refine token_scanner_whileO_l0 ?_
    unfold token_scanner_whileO_R0
    refine ⟨_, _, _, sLeft_ok t q 1 (by omega) (by omega), fun h => ?_, fun _ => fin q hle hpq R hR⟩
    simp at h; omega
  | succ m ih =>
    intro q hq hle hpq hR
    have hlt : q < t.length := by omega
    have hp := sPeek_ok t q 0 (by omega) (by omega)
    rw [Nat.add_zero, pkL_lt hlt] at hp
    have hl := sLeft_ok t q 1 (by omega) (by omega)
    rw [decide_eq_true (by omega)] at hl
    rw [drop_rd' t q hlt] at hR
    unfold untilN at hR
    have e : IntKind.wrap .i64 ((q : Int) + 1) = ((q + 1 : Nat) : Int) := w64 (by omega) (by omega)
    refine token_scanner_whileO_l0 ?_
    unfold token_scanner_whileO_R0
    refine ⟨_, _, _, hl, fun _ => ⟨_, _, _, hp, _, uEnds_ok _, ?_⟩, fun h => absurd h (by decide)⟩
    simp only [not_t, not_f]
    refine ⟨fun he => ?_, fun he => ?_⟩
    · rw [if_neg (by rw [he]; simp), show q + (untilN (t.drop (q + 1)) + 1) = q + 1 + untilN (t.drop (q + 1)) by omega] at hR
      rw [e]
      exact ih (q + 1) (by omega) (by omega) (by omega) hR
    · rw [if_pos he] at hR
      exact fin q hle hpq R hR
theorem sWhile_ok (t : List Int) (hs : Scals t) (hlen : t.length ≤ 100000000) (p k : Nat) (hq : p + k ≤ t.length) :
    Fn Tryz.prog 107 [scP, fzI .i64 ((k : Nat) : Int)] (scM t p) (.one (.fz (.str (bytesOf (enc ((t.drop p).take (k + untilN (t.drop (p + k))))))))) (scM t (p + k + untilN (t.drop (p + k)))) := by
  refine token_scanner_whileO_fn _ _ _ ?_
  obtain ⟨R, hR, hRe⟩ := exW (.one (.fz (.str (bytesOf (enc ((t.drop p).take (k + untilN (t.drop (p + k))))))))) (scM t (p + k + untilN (t.drop (p + k)))); rw [hRe]; clear hRe
  unfold token_scanner_whileO_H
  rw [w64 (by omega) (by omega)]
  have := sWhile_loop t hs hlen p R _ (p + k) rfl hq (by omega) (fun h' hw => by
    rw [show p + k + untilN (t.drop (p + k)) - p = k + untilN (t.drop (p + k)) by omega]
    exact hR h' hw)
  exact this
def hereB : List Int → List Int → Bool
  | [], _ => true
  | _ :: _, [] => false
  | w :: W, c :: T => decide (c = w) && hereB W T
theorem sHere_loop (t : List Int) (hs : Scals t) (hlen : t.length ≤ 100000000) (p : Nat) (hp : p ≤ t.length) (W : List Int) (hW : Bytes W) (hWl : W.length ≤ 1000) (R : TV → List Ob → Prop) : ∀ (m i : Nat), W.length - i = m → i ≤ W.length →
    (∀ h', Wk h' (scM t p) → R (fzB (hereB (W.drop i) (t.drop (p + i)))) h') → token_scanner_hereO_L0 R (bytesOf W) i (ints .i64 t) p := by
  intro m
  induction m with
  | zero =>
    intro i hi hle hR
    rw [List.drop_eq_nil_of_le (show W.length ≤ i by omega)] at hR
    refine token_scanner_hereO_l0 ?_
    unfold token_scanner_hereO_R0
    rw [size_of]
    refine ⟨fun h => absurd (of_decide_eq_true h) (by omega), fun _ => hR _ (Wk.refl _)⟩
  | succ m ih =>
    intro i hi hle hR
    have hlt : i < W.length := by omega
    obtain ⟨c, hc, hcv⟩ := byte_at hW hlt
    have hb := hW.rd (by omega) i
    rw [drop_rd' W i hlt] at hR
    refine token_scanner_hereO_l0 ?_
    unfold token_scanner_hereO_R0
    rw [size_of]
    refine ⟨fun _ => ⟨_, _, _, sPeek_ok t p i (by omega) (by omega), by omega, c, by rw [Int.toNat_natCast]; exact hc, ?_⟩, fun h => absurd (of_decide_eq_false h) (by omega)⟩
    rw [hcv, w64 (n := rd W i) (by omega) (by omega)]
    simp only [bne_t, bne_f]
    refine ⟨fun hne => ?_, fun heq => ?_⟩
    · have hx : hereB (rd W i :: W.drop (i + 1)) (t.drop (p + i)) = false := by
        by_cases hpt : p + i < t.length
        · rw [pkL_lt hpt] at hne
          rw [drop_rd' t (p + i) hpt]
          unfold hereB
          rw [decide_eq_false hne, Bool.false_and]
        · rw [List.drop_eq_nil_of_le (show t.length ≤ p + i by omega)]; rfl
      rw [hx] at hR
      exact hR _ (Wk.refl _)
    · have hpt : p + i < t.length := by
        unfold pkL at heq
        split at heq
        · assumption
        · omega
      rw [pkL_lt hpt] at heq
      rw [drop_rd' t (p + i) hpt] at hR
      unfold hereB at hR
      rw [decide_eq_true heq, Bool.true_and] at hR
      rw [w64 (by omega) (by omega)]
      exact ih (i + 1) (by omega) (by omega) hR
theorem sHere_ok (t : List Int) (hs : Scals t) (hlen : t.length ≤ 100000000) (p : Nat) (hp : p ≤ t.length) (W : List Int) (hW : Bytes W) (hWl : W.length ≤ 1000) :
    Fn Tryz.prog 78 [scP, .one (.fz (.str (bytesOf W)))] (scM t p) (fzB (hereB W (t.drop p))) (scM t p) := by
  refine token_scanner_hereO_fn _ _ _ ?_
  obtain ⟨R, hR, hRe⟩ := exW (fzB (hereB W (t.drop p))) (scM t p); rw [hRe]; clear hRe
  unfold token_scanner_hereO_H
  exact sHere_loop t hs hlen p hp W hW hWl R _ 0 rfl (Nat.zero_le _) hR
end Go.Proofs.YtejefchehdifhaaGreatDoor.Ev
end
section
set_option linter.unusedVariables false
set_option linter.unusedSimpArgs false
namespace Go.Proofs.YtejefchehdifhaaGreatDoor.Ev
open Go
theorem ch1_ascii {c : Int} {r : List Int} (h : c < 128) : ch1 (c :: r) = (c, 1) := by
  unfold ch1 chN
  have : rd (c :: r) 0 = c := rfl
  rw [this, if_pos h]
theorem namedV_x {B : List Int} (hB : Bytes B) (hne : B ≠ []) : namedV (120 :: B) = hexV B := by
  have hb : Bytes (120 :: B) := by
    intro x hx
    rcases List.mem_cons.1 hx with rfl | hx
    · omega
    · exact hB x hx
  have hl : B.length ≠ 0 := fun e => hne (List.length_eq_zero_iff.1 e)
  have no : ¬ ((chars (120 :: B)).2 = -1 ∧ (chars (120 :: B)).1.length = 1) := by
    rw [chars_one hb]
    unfold oneB
    rw [ch1_ascii (by omega)]
    simp
    omega
  unfold namedV
  rw [if_neg (by simp), if_neg (by simp), if_neg (by simp), if_neg (by simp), if_neg (by simp), if_neg (by simp), if_neg no, if_pos ⟨by simp; omega, rfl⟩]
  rfl
theorem hexV_nil : hexV [] = -1 := by unfold hexV; rw [if_neg (by simp)]
theorem x_of (X : List Int) : ByteArray.mk #[120] ++ bytesOf X = bytesOf (120 :: X) := by
  have e : ByteArray.mk #[120] = bytesOf [120] := by decide +kernel
  rw [e, app_of]; rfl
def hxV (r : List Int) : Int := if pkL r (semN 7 r) = 59 then hexV (enc (r.take (semN 7 r))) else -1
def hxQ (r : List Int) : Nat := if pkL r (semN 7 r) = 59 ∧ semN 7 r ≠ 0 then semN 7 r + 1 else semN 7 r
theorem enc_ne {l : List Int} (hs : Scals l) (h : l ≠ []) : enc l ≠ [] := by
  cases l with
  | nil => exact absurd rfl h
  | cons c r =>
    rw [enc_cons]
    have := utfB_len c
    intro e
    have e2 := congrArg List.length e
    rw [List.length_append] at e2
    simp at e2
    split at this <;> (try split at this) <;> (try split at this) <;> simp [e2.1] at this
theorem sHex_loop (t : List Int) (hs : Scals t) (hlen : t.length ≤ 100000000) (p : Nat) (hp : p ≤ t.length) (R : TV → List Ob → Prop)
    (hR : ∀ h', Wk h' (scM t (p + hxQ (t.drop p))) → R (fzI .i64 (hxV (t.drop p))) h') : ∀ (m j : Nat), t.length - (p + j) = m → j ≤ semN 7 (t.drop p) → token_scanner_hexO_L0 R p (ints .i64 t) ((p + j : Nat) : Int) := by
  obtain ⟨s1, s2⟩ := semN_spec 7 (t.drop p)
  obtain ⟨l1, l2⟩ := semN_le 7 (t.drop p)
  have hdl : (t.drop p).length = t.length - p := List.length_drop
  have hpk : pkL (t.drop p) (semN 7 (t.drop p)) = pkL t (p + semN 7 (t.drop p)) := pkL_drop _ _ _
  unfold hxV hxQ at hR
  rw [hpk] at hR
  generalize semN 7 (t.drop p) = s at *
  have hscal : Scals ((t.drop p).take s) := (hs.drop p).take s
  have hne : s ≠ 0 → p + s ≤ t.length → enc ((t.drop p).take s) ≠ [] := fun h0 h1 => enc_ne hscal (fun e => by have := congrArg List.length e; simp at this; omega)
  have hbx : Bytes (enc ((t.drop p).take s)) := enc_bytes hscal
  have hbl : (enc ((t.drop p).take s)).length ≤ 28 := by
    have := enc_len ((t.drop p).take s)
    have h2 : ((t.drop p).take s).length ≤ 7 := by simp; omega
    omega
  intro m
  induction m using Nat.strongRecOn with
  | _ m ih =>
  intro j hj hle
  have hlj := sLeft_ok t (p + j) 1 (by omega) (by omega)
  have hpj := sPeek_ok t (p + j) 0 (by omega) (by omega)
  rw [Nat.add_zero] at hpj
  refine token_scanner_hexO_l0 ?_
  unfold token_scanner_hexO_R0
  refine ⟨_, _, _, hlj, fun hl => ?in_, fun hl => ?out⟩
  case' in_ =>
    have hl' : p + j + 1 ≤ t.length := of_decide_eq_true hl
    refine ⟨_, _, _, hpj, ?_⟩
    simp only [bne_t, bne_f, dec_t, dec_f]
    rw [pkL_lt (by omega), w64 (n := ((p + j : Nat) : Int) - (p : Int)) (by omega) (by omega)]
    refine ⟨fun h59 => ⟨fun h7 => ?nx, fun h7 => ?o1⟩, fun h59 => ?o2⟩
    case' nx =>
      rw [w64 (by omega) (by omega)]
      have hlt : j < s := by
        rcases s2 with s2 | s2 | s2
        · omega
        · omega
        · rw [rd_dropN] at s2
          by_cases he : j = s
          · subst he; exact absurd s2 h59
          · omega
      exact ih (t.length - (p + (j + 1))) (by omega) (j + 1) rfl (by omega)
  all_goals
    have hjs : j = s := by
      by_cases he : j = s
      · exact he
      · first
        | omega
        | (have := s1 j (by omega); rw [rd_dropN] at this; exact absurd h59 this)
        | (have := of_decide_eq_false hl; omega)
    clear ih
    subst hjs
    refine ⟨_, _, _, hpj, ?_⟩
    simp only [bne_t, bne_f, beq_t, beq_f]
    refine ⟨fun a => ?_, fun a => ⟨fun b => ?_, fun b => ?_⟩⟩
    · rw [if_neg (fun h => a h.1), if_neg a] at hR
      exact hR _ (Wk.refl _)
    · have h0 : j = 0 := by omega
      rw [if_neg (fun h => h.2 h0), if_pos a] at hR
      rw [h0, List.take_zero, show enc [] = [] from rfl, hexV_nil] at hR
      rw [h0]
      exact hR _ (Wk.refl _)
    · have h0 : j ≠ 0 := by omega
      have hpt : p + j ≤ t.length := by omega
      rw [if_pos ⟨a, h0⟩, if_pos a] at hR
      rw [ints_len, Int.toNat_natCast, Int.toNat_natCast, ints_take, ints_drop]
      have e1 : (t.take (p + j)).drop p = (t.drop p).take j := by rw [List.drop_take]; congr 1; omega
      rw [e1]
      have hN := uNamed_ok (120 :: enc ((t.drop p).take j)) (by
        intro x hx
        rcases List.mem_cons.1 hx with rfl | hx
        · omega
        · exact hbx x hx) (by rw [List.length_cons]; omega)
      rw [namedV_x hbx (hne h0 hpt), ← x_of] at hN
      have sc := hexV_scal (enc ((t.drop p).take j))
      refine ⟨⟨by omega, by omega, by omega⟩, _, _, uEncode_ok _ hscal (by simp; omega), _, enc_map _, ?_, _, _, hN, ?_⟩
      · rw [size_of, show (ByteArray.mk #[120]).size = 1 from rfl]; omega
      · simp only [not_t, not_f, dec_t, dec_f]
        rw [w64 (by omega) (by omega)]
        refine ⟨fun hv => ?_, fun hv => ?_⟩
        · have : hexV (enc ((t.drop p).take j)) = -1 := by
            rcases sc with sc | sc
            · exact sc
            · have := (scal_in sc).1; omega
          rw [this] at hR
          exact hR _ (Wk.refl _)
        · rw [if_pos hv]
          exact hR _ (Wk.refl _)
theorem sHex_ok (t : List Int) (hs : Scals t) (hlen : t.length ≤ 100000000) (p : Nat) (hp : p ≤ t.length) : Fn Tryz.prog 153 [scP] (scM t p) (fzI .i64 (hxV (t.drop p))) (scM t (p + hxQ (t.drop p))) := by
  refine token_scanner_hexO_fn _ _ ?_
  obtain ⟨R, hR, hRe⟩ := exW (fzI .i64 (hxV (t.drop p))) (scM t (p + hxQ (t.drop p))); rw [hRe]; clear hRe
  unfold token_scanner_hexO_H
  exact sHex_loop t hs hlen p hp R hR _ 0 rfl (Nat.zero_le _)
def esQ (r : List Int) : Nat := if pkL r 0 = 120 then 1 + hxQ (r.drop 1) else 1
theorem escV_hex {r : List Int} (h : pkL r 0 = 120) : (escV r).1 = hxV (r.drop 1) ∧ (0 ≤ hxV (r.drop 1) → (escV r).2 = 1 + hxQ (r.drop 1)) := by
  unfold escV hxV hxQ
  simp only [h]
  rw [if_neg (by omega), if_neg (by omega), if_neg (by omega), if_neg (by omega), if_neg (by omega), if_pos trivial]
  by_cases h59 : pkL (r.drop 1) (semN 7 (r.drop 1)) = 59
  · rw [if_pos h59, if_pos h59]
    refine ⟨rfl, fun h0 => ?_⟩
    by_cases hz : semN 7 (r.drop 1) = 0
    · rw [hz, List.take_zero, show enc [] = [] from rfl, hexV_nil] at h0; omega
    · rw [if_pos ⟨h59, hz⟩]; simp only; omega
  · rw [if_neg h59, if_neg h59]
    exact ⟨rfl, fun h0 => by omega⟩
theorem sEscape_ok (t : List Int) (hs : Scals t) (hlen : t.length ≤ 100000000) (p : Nat) (hp : p ≤ t.length) :
    Fn Tryz.prog 130 [scP] (scM t p) (fzI .i64 (escV (t.drop p)).1) (scM t (p + esQ (t.drop p))) := by
  refine token_scanner_escapeO_fn _ _ ?_
  obtain ⟨R, hR, hRe⟩ := exW (fzI .i64 (escV (t.drop p)).1) (scM t (p + esQ (t.drop p))); rw [hRe]; clear hRe
  unfold token_scanner_escapeO_H
  have hpj := sPeek_ok t p 0 (by omega) (by omega)
  have hk : pkL (t.drop p) 0 = pkL t (p + 0) := pkL_drop _ _ _
  refine ⟨_, _, _, hpj, ?_⟩
  rw [← hk, w64 (by omega) (by omega)]
  simp only [beq_t, beq_f]
  have one : pkL (t.drop p) 0 ≠ 120 → ∀ v, (escV (t.drop p)).1 = v → R (fzI .i64 v) (scM t (p + 1)) := fun hx v hv => by
    unfold esQ at hR
    rw [if_neg hx, hv] at hR
    exact hR _ (Wk.refl _)
  refine ⟨fun c => one (by omega) _ ?_, fun c1 => ⟨fun c => one (by omega) _ ?_, fun c2 => ⟨fun c => one (by omega) _ ?_, fun c3 => ⟨fun c => one (by omega) _ ?_, fun c4 => ⟨fun c => one (by omega) _ ?_, fun c5 => ⟨fun c => ?_, fun c6 => one c6 _ ?_⟩⟩⟩⟩⟩⟩
  · unfold escV; simp only [c]; rfl
  · unfold escV; simp only [c]; rfl
  · unfold escV; simp only [c]; rfl
  · unfold escV; simp only [c]; rfl
  · unfold escV; simp only [c]; rfl
  · have hpt : p + 1 ≤ t.length := by
      rw [hk] at c
      unfold pkL at c
      split at c <;> omega
    obtain ⟨e1, e2⟩ := escV_hex c
    have hx := sHex_ok t hs hlen (p + 1) hpt
    rw [List.drop_drop] at e1 e2
    unfold esQ at hR
    rw [if_pos c, List.drop_drop, e1, show p + (1 + hxQ (t.drop (p + 1))) = p + 1 + hxQ (t.drop (p + 1)) by omega] at hR
    exact ⟨_, _, _, hx, hR _ (Wk.refl _)⟩
  · unfold escV
    simp only
    rw [if_neg c1, if_neg c3, if_neg c2, if_neg c4, if_neg c5, if_neg c6]
theorem escV_pos {r : List Int} (h : 0 ≤ (escV r).1) : esQ r = (escV r).2 ∧ scalB (escV r).1 = true ∧ (escV r).2 ≤ r.length := by
  by_cases c : pkL r 0 = 120
  · obtain ⟨e1, e2⟩ := escV_hex c
    rw [e1] at h ⊢
    refine ⟨by unfold esQ; rw [if_pos c, e2 h], ?_, ?_⟩
    · unfold hxV at h ⊢
      split at h
      · rename_i h59
        rw [if_pos h59]
        rcases hexV_scal (enc ((r.drop 1).take (semN 7 (r.drop 1)))) with sc | sc
        · omega
        · exact sc
      · omega
    · rw [e2 h]
      have l2 := (semN_le 7 (r.drop 1)).2
      have l3 : (r.drop 1).length = r.length - 1 := List.length_drop
      have hr : 1 ≤ r.length := by
        unfold pkL at c
        split at c <;> omega
      unfold hxQ
      split
      · rename_i h59
        have := h59.1
        unfold pkL at this
        split at this <;> omega
      · omega
  · have hn : r.length ≠ 0 := fun e => by
      unfold escV at h
      rw [pkL_ge (by omega)] at h
      simp at h
    unfold esQ
    rw [if_neg c]
    unfold escV at h ⊢
    simp only at h ⊢
    revert h
    repeat' split
    all_goals first
      | (intro _; refine ⟨rfl, by decide, ?_⟩; simp only; omega)
      | (intro h; exact absurd h (by decide))
      | (rename_i h1 _; exact absurd h1 c)
      | (rename_i h1; exact absurd h1 c)
      | (intro _; exact absurd (by assumption) c)
def stV (p : Option (List Int × Nat)) : List Int := match p with | some (a, _) => a | none => []
abbrev stT (p : Option (List Int × Nat)) : TV := match p with
  | some (a, _) => .tup [(false, [.fz (.str (bytesOf (enc a)))]), (false, [.fz (.bool (decide (a.length ≤ 4096)))])]
  | none => .tup [(false, [.fz (.str (bytesOf []))]), (false, [.fz (.bool false)])]
def strP : Nat → List Int → Nat → Nat
  | 0, _, k => k
  | _ + 1, [], k => k
  | f + 1, c :: r, k => if c = 34 then k + 1 else if c ≠ 92 then strP f r (k + 1) else if (escV r).1 < 0 then k + 1 + esQ r else strP f (r.drop (escV r).2) (k + 1 + (escV r).2)
theorem strP_some : ∀ (f : Nat) (r acc : List Int) (k : Nat) (a : List Int) (e : Nat), strF f r acc k = some (a, e) → strP f r k = e
  | 0, r, acc, k, a, e, h => by unfold strF at h; cases h
  | f + 1, [], acc, k, a, e, h => by unfold strF at h; cases h
  | f + 1, c :: r, acc, k, a, e, h => by
    unfold strF at h
    unfold strP
    split
    · rename_i hc
      rw [if_pos hc] at h; cases h; rfl
    · rename_i hc
      rw [if_neg hc] at h
      split
      · rename_i hc2
        rw [if_pos hc2] at h
        exact strP_some f r _ _ a e h
      · rename_i hc2
        rw [if_neg hc2] at h
        split
        · rename_i hc3
          rw [if_pos hc3] at h; cases h
        · rename_i hc3
          rw [if_neg hc3] at h
          exact strP_some f _ _ _ a e h
theorem sStr_loop (t : List Int) (hs : Scals t) (hlen : t.length ≤ 100000000) (R : TV → List Ob → Prop) : ∀ (f q : Nat) (acc : List Int), t.length - q < f → q ≤ t.length → acc.length ≤ q → Scals acc →
    (∀ h', Wk h' (scM t (strP f (t.drop q) q)) → R (stT (strF f (t.drop q) acc q)) h') → token_scanner_strO_L0 R (ints .i64 t) q (ints .i64 acc) := by
  intro f
  induction f with
  | zero => intro q acc hf; omega
  | succ f ih =>
    intro q acc hf hle hacc hsa hR
    have hl := sLeft_ok t q 1 (by omega) (by omega)
    have hp := sPeek_ok t q 0 (by omega) (by omega)
    refine token_scanner_strO_l0 ?_
    unfold token_scanner_strO_R0
    refine ⟨_, _, _, hl, fun h1 => ?_, fun h1 => ?_⟩
    · have hlt : q < t.length := of_decide_eq_true h1
      rw [Nat.add_zero, pkL_lt hlt] at hp
      rw [drop_rd' t q hlt] at hR
      unfold strF strP at hR
      have e : IntKind.wrap .i64 ((q : Int) + 1) = ((q + 1 : Nat) : Int) := w64 (by omega) (by omega)
      refine ⟨_, _, _, hp, ?_⟩
      simp only [beq_t, beq_f, dec_t, dec_f, e, ints_len]
      refine ⟨fun c34 => ?_, fun c34 => ⟨fun c92 => ?_, fun c92 => ?_⟩⟩
      · rw [if_pos c34, if_pos c34] at hR
        refine ⟨_, _, uEncode_ok acc hsa (by omega), _, enc_map _, ?_⟩
        have hx := hR _ (Wk.refl _)
        unfold stT at hx
        simp only at hx
        have e2 : decide ((acc.length : Int) ≤ 4096) = decide (acc.length ≤ 4096) := by rw [decide_eq_decide]; omega
        rw [e2]
        exact hx
      · have n92 : ¬ (rd t q ≠ 92) := fun h => h c92
        rw [if_neg c34, if_neg c34, if_neg n92, if_neg n92] at hR
        have hE := sEscape_ok t hs hlen (q + 1) (by omega)
        refine ⟨_, _, _, hE, fun hv => ?_, fun hv => ?_⟩
        · rw [if_pos hv, if_pos hv] at hR
          exact hR _ (Wk.refl _)
        · rw [if_neg hv, if_neg hv] at hR
          obtain ⟨g1, g2, g3⟩ := escV_pos (r := t.drop (q + 1)) (by omega)
          rw [List.length_drop] at g3
          rw [g1, ints_snoc]
          rw [List.drop_drop] at hR
          exact ⟨by simp only [List.length_cons, List.length_nil]; omega, ih (q + 1 + (escV (t.drop (q + 1))).2) (acc ++ [(escV (t.drop (q + 1))).1]) (by omega) (by omega) (by simp; omega) (by
            intro c hc
            rcases List.mem_append.1 hc with hc | hc
            · exact hsa c hc
            · simp at hc; rw [hc]; exact g2) hR⟩
      · rw [if_neg c34, if_neg c34, if_pos c92, if_pos c92] at hR
        rw [ints_snoc]
        exact ⟨by simp only [List.length_cons, List.length_nil]; omega, ih (q + 1) (acc ++ [rd t q]) (by omega) (by omega) (by simp; omega) (by
            intro c hc
            rcases List.mem_append.1 hc with hc | hc
            · exact hsa c hc
            · simp at hc; rw [hc]; exact hs.rd hlt) hR⟩
    · have hge : t.length ≤ q := by have := of_decide_eq_false h1; omega
      rw [List.drop_eq_nil_of_le hge] at hR
      exact hR _ (Wk.refl _)
theorem sStr_ok (t : List Int) (hs : Scals t) (hlen : t.length ≤ 100000000) (p : Nat) (hp : p ≤ t.length) :
    Fn Tryz.prog 105 [scP] (scM t p) (stT (strF (t.length + 1) (t.drop p) [] p)) (scM t (strP (t.length + 1) (t.drop p) p)) := by
  refine token_scanner_strO_fn _ _ ?_
  obtain ⟨R, hR, hRe⟩ := exW (stT (strF (t.length + 1) (t.drop p) [] p)) (scM t (strP (t.length + 1) (t.drop p) p)); rw [hRe]; clear hRe
  unfold token_scanner_strO_H
  exact sStr_loop t hs hlen R (t.length + 1) p [] (by omega) hp (by simp) (by intro c hc; cases hc) hR
theorem ch1_scal {l : List Int} (hl : Bytes l) (hne : l ≠ []) (h : (ch1 l).2 ≠ 0) : scalB (ch1 l).1 = true := by
  have b0 := rd_byte hl 0
  revert h
  unfold ch1 chN scalB
  repeat' split
  all_goals first | (intro h; exact absurd rfl h) | (intro _; simp; omega)
theorem namedV_scal {T : List Int} (hT : Bytes T) : namedV T < 0 ∨ scalB (namedV T) = true := by
  unfold namedV
  by_cases h0 : T = [115, 112, 97, 99, 101]
  · rw [if_pos h0]; exact .inr (by decide)
  rw [if_neg h0]
  by_cases h1 : T = [110, 101, 119, 108, 105, 110, 101]
  · rw [if_pos h1]; exact .inr (by decide)
  rw [if_neg h1]
  by_cases h2 : T = [116, 97, 98]
  · rw [if_pos h2]; exact .inr (by decide)
  rw [if_neg h2]
  by_cases h3 : T = [114, 101, 116, 117, 114, 110]
  · rw [if_pos h3]; exact .inr (by decide)
  rw [if_neg h3]
  by_cases h4 : T = [110, 117, 108, 108]
  · rw [if_pos h4]; exact .inr (by decide)
  rw [if_neg h4]
  by_cases h5 : T = [100, 101, 108, 101, 116, 101]
  · rw [if_pos h5]; exact .inr (by decide)
  rw [if_neg h5]
  split
  · rename_i h
    have h1 := (chars_one hT).1 h
    obtain ⟨q1, q2⟩ := namedV_one hT h1
    rw [q1]
    unfold oneB at h1
    rw [decide_eq_true_eq] at h1
    right
    exact ch1_scal hT h1.1 (by rw [h1.2]; have : T.length ≠ 0 := fun e => h1.1 (List.length_eq_zero_iff.1 e); omega)
  · split
    · rcases hexV_scal (T.drop 1) with h | h
      · left; omega
      · exact .inr h
    · left; omega
def chN_ (r : List Int) : Nat := 1 + untilN (r.drop 1)
def chB (r : List Int) : List Int := enc (r.take (chN_ r))
def chV (r : List Int) : Int := if r = [] then -1 else namedV (chB r)
def chQ (r : List Int) : Nat := if r = [] then 0 else chN_ r
def chX (r : List Int) : List Int := if r = [] then [] else utfB (if 0 ≤ chV r then chV r else 0)
theorem sChar_ok (t : List Int) (hs : Scals t) (hlen : t.length ≤ 4000000) (p : Nat) (hp : p ≤ t.length) :
    Fn Tryz.prog 106 [scP] (scM t p) (.tup [(false, [.fz (.str (bytesOf (chX (t.drop p))))]), (false, [.fz (.bool (decide (0 ≤ chV (t.drop p))))])]) (scM t (p + chQ (t.drop p))) := by
  refine token_scanner_charO_fn _ _ ?_
  obtain ⟨R, hR, hRe⟩ := exW (.tup [(false, [.fz (.str (bytesOf (chX (t.drop p))))]), (false, [.fz (.bool (decide (0 ≤ chV (t.drop p))))])]) (scM t (p + chQ (t.drop p))); rw [hRe]; clear hRe
  unfold token_scanner_charO_H
  refine ⟨_, _, _, sLeft_ok t p 1 (by omega) (by omega), ?_⟩
  simp only [not_t, not_f, decide_eq_true_eq, decide_eq_false_iff_not]
  refine ⟨fun h => ?_, fun h => ?_⟩
  · have hd : t.drop p = [] := List.drop_eq_nil_of_le (by omega)
    rw [hd] at hR
    exact hR _ (Wk.refl _)
  · have hd : t.drop p ≠ [] := fun e => by have := congrArg List.length e; simp at this; omega
    have hW := sWhile_ok t hs (by omega) p 1 h
    have e1 : 1 + untilN (t.drop (p + 1)) = chN_ (t.drop p) := by unfold chN_; rw [List.drop_drop]
    have hun := untilN_le (t.drop (p + 1))
    rw [List.length_drop] at hun
    have hbB : Bytes (chB (t.drop p)) := enc_bytes ((hs.drop p).take _)
    have hbl : (chB (t.drop p)).length ≤ 16777216 := by
      have := enc_len ((t.drop p).take (chN_ (t.drop p)))
      unfold chB
      simp only [List.length_take, List.length_drop] at this
      omega
    rw [e1, show p + 1 + untilN (t.drop (p + 1)) = p + chN_ (t.drop p) by omega] at hW
    have hN := uNamed_ok (chB (t.drop p)) hbB hbl
    have hsc := namedV_scal hbB
    unfold chX chV chQ at hR
    rw [if_neg hd, if_neg hd, if_neg hd] at hR
    refine ⟨_, _, _, hW, _, _, hN, ?_⟩
    generalize namedV (chB (t.drop p)) = v at *
    have hE := uEncode_ok [if 0 ≤ v then v else 0] (by
      intro c hc
      simp at hc
      rw [hc]
      split
      · rcases hsc with hsc | hsc
        · omega
        · exact hsc
      · decide) (by simp)
    refine ⟨_, _, hE, _, enc_map _, ?_⟩
    rw [show enc [if 0 ≤ v then v else 0] = utfB (if 0 ≤ v then v else 0) by simp [enc]]
    exact hR _ (Wk.refl _)
end Go.Proofs.YtejefchehdifhaaGreatDoor.Ev
end
section
set_option linter.unusedVariables false
set_option maxRecDepth 100000
namespace Go.Proofs.YtejefchehdifhaaGreatDoor.Ev
open Go
def token_scanner_nextO_lv : List Nat → Keep := lvOf [([0, 1, 0, 1, 1], ⟨12301, 0, [], false, false⟩)]
def token_scanner_nextO_S0 (p : Int) (i : Int) (o : List (List FV)) (o1 : Int) : St := (St.mk [(TV.one (AV.ptr 0 0 0 66)), TV.und, (TV.one (AV.ptr 1 0 0 0)), (TV.one (AV.fz (FV.int .i64 p))), TV.und, TV.und, TV.und, TV.und, TV.und, TV.und, TV.und, TV.und, (TV.agg [(AV.fz (FV.str (ByteArray.mk #[35, 44, 64]))), (AV.fz (FV.int .i64 6)), (AV.fz (FV.str (ByteArray.mk #[117, 110, 115, 121, 110, 116, 97, 120, 45, 115, 112, 108, 105, 99, 105, 110, 103]))), (AV.fz (FV.str (ByteArray.mk #[35, 40]))), (AV.fz (FV.int .i64 3)), (AV.fz (FV.str (ByteArray.mk #[]))), (AV.fz (FV.str (ByteArray.mk #[35, 59]))), (AV.fz (FV.int .i64 5)), (AV.fz (FV.str (ByteArray.mk #[]))), (AV.fz (FV.str (ByteArray.mk #[35, 39]))), (AV.fz (FV.int .i64 6)), (AV.fz (FV.str (ByteArray.mk #[115, 121, 110, 116, 97, 120]))), (AV.fz (FV.str (ByteArray.mk #[35, 96]))), (AV.fz (FV.int .i64 6)), (AV.fz (FV.str (ByteArray.mk #[113, 117, 97, 115, 105, 115, 121, 110, 116, 97, 120]))), (AV.fz (FV.str (ByteArray.mk #[35, 44]))), (AV.fz (FV.int .i64 6)), (AV.fz (FV.str (ByteArray.mk #[117, 110, 115, 121, 110, 116, 97, 120]))), (AV.fz (FV.str (ByteArray.mk #[44, 64]))), (AV.fz (FV.int .i64 6)), (AV.fz (FV.str (ByteArray.mk #[117, 110, 113, 117, 111, 116, 101, 45, 115, 112, 108, 105, 99, 105, 110, 103]))), (AV.fz (FV.str (ByteArray.mk #[40]))), (AV.fz (FV.int .i64 1)), (AV.fz (FV.str (ByteArray.mk #[]))), (AV.fz (FV.str (ByteArray.mk #[41]))), (AV.fz (FV.int .i64 2)), (AV.fz (FV.str (ByteArray.mk #[]))), (AV.fz (FV.str (ByteArray.mk #[39]))), (AV.fz (FV.int .i64 6)), (AV.fz (FV.str (ByteArray.mk #[113, 117, 111, 116, 101]))), (AV.fz (FV.str (ByteArray.mk #[96]))), (AV.fz (FV.int .i64 6)), (AV.fz (FV.str (ByteArray.mk #[113, 117, 97, 115, 105, 113, 117, 111, 116, 101]))), (AV.fz (FV.str (ByteArray.mk #[44]))), (AV.fz (FV.int .i64 6)), (AV.fz (FV.str (ByteArray.mk #[117, 110, 113, 117, 111, 116, 101])))]), (TV.one (AV.fz (FV.int .i64 i))), TV.und, TV.und, TV.und, TV.und, TV.und, TV.und, TV.und, TV.und, TV.und, TV.und, TV.und, TV.und, TV.und, TV.und, TV.und, TV.und, TV.und, TV.und, TV.und, TV.und, TV.und, TV.und, TV.und, TV.und, TV.und, TV.und, TV.und, TV.und, TV.und, TV.und, TV.und, TV.und, TV.und, TV.und, TV.und, TV.und, TV.und, TV.und, TV.und, TV.und, TV.und, TV.und, TV.und, TV.und, TV.und, TV.und, TV.und, TV.und, TV.und, TV.und, TV.und, TV.und, TV.und, TV.und, TV.und, TV.und, TV.und, TV.und, TV.und, TV.und] [(Ob.g 66 [(AV.fz (FV.sl 1 o)), (AV.fz (FV.int .i64 o1))]), (Ob.g 58 [(AV.fz (FV.int .i64 0)), (AV.fz (FV.str (ByteArray.mk #[]))), (AV.fz (FV.int .i64 0)), (AV.fz (FV.str (ByteArray.mk #[]))), (AV.fz (FV.bool false)), (AV.ofl 1 2), (AV.ofl 6 3), (AV.fz (FV.int .i64 0)), (AV.fz (FV.int .i64 0))]), (Ob.f 0 1 ([] : List (List FV))), (Ob.f 0 6 ([] : List (List FV)))])
def token_scanner_nextO_L0 (R : TV → List Ob → Prop) (RX : FV → List Ob → Prop) (p : Int) (i : Int) (o : List (List FV)) (o1 : Int) : Prop := LoopAt Tryz.prog (modeX [] [(36, [(Sig.mk 1 [(false, [(AT.k CK.bool)])] [(OT.g 66 [(AT.k (CK.sl 1)), (AT.k (CK.int .i64))])] 0)]), (76, [(Sig.mk 1 [(false, [(AT.k (CK.int .i64))])] [(OT.g 66 [(AT.k (CK.sl 1)), (AT.k (CK.int .i64))])] 0)]), (78, [(Sig.mk 1 [(false, [(AT.k CK.bool)])] [(OT.g 66 [(AT.k (CK.sl 1)), (AT.k (CK.int .i64))])] 0)]), (79, [(Sig.mk 1 [(true, [(AT.k (CK.int .i64)), (AT.k CK.str), (AT.k CK.bool), (AT.k (CK.sl 1)), (AT.k (CK.sl 6)), (AT.k (CK.int .i64))]), (false, [(AT.k CK.bool)])] [(OT.g 66 [(AT.k (CK.sl 1)), (AT.k (CK.int .i64))])] 0)])] [] 1 RX) token_scanner_nextO_lv Tryz.f37 (some 1) R [1, 1, 0, 1, 0] (token_scanner_nextO_S0 p i o o1)
def token_scanner_nextO_R0 (R : TV → List Ob → Prop) (RX : FV → List Ob → Prop) (p : Int) (i : Int) (o : List (List FV)) (o1 : Int) : Prop :=
  ((((decide (i < 12)) = true) → ((((0 : Int) ≤ i) ∧ (i < 12)) ∧ (∃ s8 : ByteArray, (∃ n26 : Int, (∃ s9 : ByteArray, ((cutT [(AV.fz (FV.str (ByteArray.mk #[35, 44, 64]))), (AV.fz (FV.int .i64 6)), (AV.fz (FV.str (ByteArray.mk #[117, 110, 115, 121, 110, 116, 97, 120, 45, 115, 112, 108, 105, 99, 105, 110, 103]))), (AV.fz (FV.str (ByteArray.mk #[35, 40]))), (AV.fz (FV.int .i64 3)), (AV.fz (FV.str (ByteArray.mk #[]))), (AV.fz (FV.str (ByteArray.mk #[35, 59]))), (AV.fz (FV.int .i64 5)), (AV.fz (FV.str (ByteArray.mk #[]))), (AV.fz (FV.str (ByteArray.mk #[35, 39]))), (AV.fz (FV.int .i64 6)), (AV.fz (FV.str (ByteArray.mk #[115, 121, 110, 116, 97, 120]))), (AV.fz (FV.str (ByteArray.mk #[35, 96]))), (AV.fz (FV.int .i64 6)), (AV.fz (FV.str (ByteArray.mk #[113, 117, 97, 115, 105, 115, 121, 110, 116, 97, 120]))), (AV.fz (FV.str (ByteArray.mk #[35, 44]))), (AV.fz (FV.int .i64 6)), (AV.fz (FV.str (ByteArray.mk #[117, 110, 115, 121, 110, 116, 97, 120]))), (AV.fz (FV.str (ByteArray.mk #[44, 64]))), (AV.fz (FV.int .i64 6)), (AV.fz (FV.str (ByteArray.mk #[117, 110, 113, 117, 111, 116, 101, 45, 115, 112, 108, 105, 99, 105, 110, 103]))), (AV.fz (FV.str (ByteArray.mk #[40]))), (AV.fz (FV.int .i64 1)), (AV.fz (FV.str (ByteArray.mk #[]))), (AV.fz (FV.str (ByteArray.mk #[41]))), (AV.fz (FV.int .i64 2)), (AV.fz (FV.str (ByteArray.mk #[]))), (AV.fz (FV.str (ByteArray.mk #[39]))), (AV.fz (FV.int .i64 6)), (AV.fz (FV.str (ByteArray.mk #[113, 117, 111, 116, 101]))), (AV.fz (FV.str (ByteArray.mk #[96]))), (AV.fz (FV.int .i64 6)), (AV.fz (FV.str (ByteArray.mk #[113, 117, 97, 115, 105, 113, 117, 111, 116, 101]))), (AV.fz (FV.str (ByteArray.mk #[44]))), (AV.fz (FV.int .i64 6)), (AV.fz (FV.str (ByteArray.mk #[117, 110, 113, 117, 111, 116, 101])))] ((Int.toNat i) * 3) 3 [(FV.str s8), (FV.int .i64 n26), (FV.str s9)]) ∧ (∃ es20 : List (List FV), (∃ n27 : Int, (∃ b14 : Bool, ((Fn Tryz.prog 78 [(TV.one (AV.ptr 0 0 0 66)), (TV.one (AV.fz (FV.str s8)))] [(Ob.g 66 [(AV.fz (FV.sl 1 o)), (AV.fz (FV.int .i64 o1))])] (TV.one (AV.fz (FV.bool b14))) [(Ob.g 66 [(AV.fz (FV.sl 1 es20)), (AV.fz (FV.int .i64 n27))])]) ∧ (((b14 = true) → (R (TV.agg [(AV.fz (FV.int .i64 n26)), (AV.fz (FV.str s9)), (AV.fz (FV.int .i64 0)), (AV.fz (FV.str (ByteArray.mk #[]))), (AV.fz (FV.bool false)), (AV.ofl 1 1), (AV.ofl 6 2), (AV.fz (FV.int .i64 0)), (AV.fz (FV.int .i64 p))]) [(Ob.g 66 [(AV.fz (FV.sl 1 es20)), (AV.fz (FV.int .i64 (IntKind.wrap .i64 (n27 + (((ByteArray.size s8) : Nat) : Int)))))]), (Ob.f 0 1 ([] : List (List FV))), (Ob.f 0 6 ([] : List (List FV)))])) ∧ ((b14 = false) → (token_scanner_nextO_L0 R RX p (IntKind.wrap .i64 (i + 1)) es20 n27))))))))))))) ∧ (((decide (i < 12)) = false) → (∃ es21 : List (List FV), (∃ n28 : Int, (∃ n29 : Int, ((Fn Tryz.prog 76 [(TV.one (AV.ptr 0 0 0 66)), (TV.one (AV.fz (FV.int .i64 0)))] [(Ob.g 66 [(AV.fz (FV.sl 1 o)), (AV.fz (FV.int .i64 o1))])] (TV.one (AV.fz (FV.int .i64 n29))) [(Ob.g 66 [(AV.fz (FV.sl 1 es21)), (AV.fz (FV.int .i64 n28))])]) ∧ ((((n29 == 46) = true) → (∃ es22 : List (List FV), (∃ n30 : Int, (∃ b15 : Bool, ((Fn Tryz.prog 36 [(TV.one (AV.ptr 0 0 0 66)), (TV.one (AV.fz (FV.int .i64 2)))] [(Ob.g 66 [(AV.fz (FV.sl 1 es21)), (AV.fz (FV.int .i64 n28))])] (TV.one (AV.fz (FV.bool b15))) [(Ob.g 66 [(AV.fz (FV.sl 1 es22)), (AV.fz (FV.int .i64 n30))])]) ∧ ((((Bool.not b15) = true) → (R (TV.agg [(AV.fz (FV.int .i64 4)), (AV.fz (FV.str (ByteArray.mk #[]))), (AV.fz (FV.int .i64 0)), (AV.fz (FV.str (ByteArray.mk #[]))), (AV.fz (FV.bool false)), (AV.ofl 1 1), (AV.ofl 6 2), (AV.fz (FV.int .i64 0)), (AV.fz (FV.int .i64 p))]) [(Ob.g 66 [(AV.fz (FV.sl 1 es22)), (AV.fz (FV.int .i64 (IntKind.wrap .i64 (n30 + 1))))]), (Ob.f 0 1 ([] : List (List FV))), (Ob.f 0 6 ([] : List (List FV)))])) ∧ (((Bool.not b15) = false) → (∃ es23 : List (List FV), (∃ n31 : Int, (∃ n32 : Int, ((Fn Tryz.prog 76 [(TV.one (AV.ptr 0 0 0 66)), (TV.one (AV.fz (FV.int .i64 1)))] [(Ob.g 66 [(AV.fz (FV.sl 1 es22)), (AV.fz (FV.int .i64 n30))])] (TV.one (AV.fz (FV.int .i64 n32))) [(Ob.g 66 [(AV.fz (FV.sl 1 es23)), (AV.fz (FV.int .i64 n31))])]) ∧ (∃ b16 : Bool, ((Fn Tryz.prog 51 [(TV.one (AV.fz (FV.int .i64 n32)))] [] (TV.one (AV.fz (FV.bool b16))) []) ∧ (((b16 = true) → (R (TV.agg [(AV.fz (FV.int .i64 4)), (AV.fz (FV.str (ByteArray.mk #[]))), (AV.fz (FV.int .i64 0)), (AV.fz (FV.str (ByteArray.mk #[]))), (AV.fz (FV.bool false)), (AV.ofl 1 1), (AV.ofl 6 2), (AV.fz (FV.int .i64 0)), (AV.fz (FV.int .i64 p))]) [(Ob.g 66 [(AV.fz (FV.sl 1 es23)), (AV.fz (FV.int .i64 (IntKind.wrap .i64 (n31 + 1))))]), (Ob.f 0 1 ([] : List (List FV))), (Ob.f 0 6 ([] : List (List FV)))])) ∧ ((b16 = false) → (∃ es24 : List (List FV), (∃ n33 : Int, (∃ n34 : Int, (∃ s10 : ByteArray, (∃ b17 : Bool, (∃ es25 : List (List FV), (∃ es26 : List (List FV), (∃ n35 : Int, (∃ b18 : Bool, ((Fn Tryz.prog 79 [(TV.one (AV.ptr 0 0 0 66))] [(Ob.g 66 [(AV.fz (FV.sl 1 es23)), (AV.fz (FV.int .i64 n31))])] (TV.tup [(true, [(AV.fz (FV.int .i64 n34)), (AV.fz (FV.str s10)), (AV.fz (FV.bool b17)), (AV.fz (FV.sl 1 es25)), (AV.fz (FV.sl 6 es26)), (AV.fz (FV.int .i64 n35))]), (false, [(AV.fz (FV.bool b18))])]) [(Ob.g 66 [(AV.fz (FV.sl 1 es24)), (AV.fz (FV.int .i64 n33))])]) ∧ ((((Bool.not b18) = true) → (RX (FV.ifv 62 true [(FV.int .i64 p)]) [(Ob.g 66 [AV.und, AV.und])])) ∧ (((Bool.not b18) = false) → (R (TV.agg [(AV.fz (FV.int .i64 7)), (AV.fz (FV.str (ByteArray.mk #[]))), (AV.fz (FV.int .i64 n34)), (AV.fz (FV.str s10)), (AV.fz (FV.bool b17)), (AV.fz (FV.sl 1 es25)), (AV.fz (FV.sl 6 es26)), (AV.fz (FV.int .i64 p)), (AV.fz (FV.int .i64 p))]) [(Ob.g 66 [(AV.fz (FV.sl 1 es24)), (AV.fz (FV.int .i64 n33))])])))))))))))))))))))))))))))) ∧ (((n29 == 46) = false) → (∃ es27 : List (List FV), (∃ n36 : Int, (∃ n37 : Int, (∃ s11 : ByteArray, (∃ b19 : Bool, (∃ es28 : List (List FV), (∃ es29 : List (List FV), (∃ n38 : Int, (∃ b20 : Bool, ((Fn Tryz.prog 79 [(TV.one (AV.ptr 0 0 0 66))] [(Ob.g 66 [(AV.fz (FV.sl 1 es21)), (AV.fz (FV.int .i64 n28))])] (TV.tup [(true, [(AV.fz (FV.int .i64 n37)), (AV.fz (FV.str s11)), (AV.fz (FV.bool b19)), (AV.fz (FV.sl 1 es28)), (AV.fz (FV.sl 6 es29)), (AV.fz (FV.int .i64 n38))]), (false, [(AV.fz (FV.bool b20))])]) [(Ob.g 66 [(AV.fz (FV.sl 1 es27)), (AV.fz (FV.int .i64 n36))])]) ∧ ((((Bool.not b20) = true) → (RX (FV.ifv 62 true [(FV.int .i64 p)]) [(Ob.g 66 [AV.und, AV.und])])) ∧ (((Bool.not b20) = false) → (R (TV.agg [(AV.fz (FV.int .i64 7)), (AV.fz (FV.str (ByteArray.mk #[]))), (AV.fz (FV.int .i64 n37)), (AV.fz (FV.str s11)), (AV.fz (FV.bool b19)), (AV.fz (FV.sl 1 es28)), (AV.fz (FV.sl 6 es29)), (AV.fz (FV.int .i64 p)), (AV.fz (FV.int .i64 p))]) [(Ob.g 66 [(AV.fz (FV.sl 1 es27)), (AV.fz (FV.int .i64 n36))])])))))))))))))))))))))
theorem token_scanner_nextO_l0 {R : TV → List Ob → Prop} {RX : FV → List Ob → Prop} {p : Int} {i : Int} {o : List (List FV)} {o1 : Int} (h : token_scanner_nextO_R0 R RX p i o o1) : token_scanner_nextO_L0 R RX p i o o1 :=
  LoopAt.by_tr (by kernel_rfl) (by kernel_rfl) h
def token_scanner_nextO_H (R : TV → List Ob → Prop) (RX : FV → List Ob → Prop) (tx : List (List FV)) (p : Int) : Prop :=
  (token_scanner_nextO_L0 R RX p 0 tx p)
theorem token_scanner_nextO_fc (tx : List (List FV)) (p : Int) {r : TV} {h : List Ob} (H : token_scanner_nextO_H (fun r' h' => Cool 1 r' h' r h) (fun _ _ => False) tx p) : Fn Tryz.prog 37 [(TV.one (AV.ptr 0 0 0 66))] [(Ob.g 66 [(AV.fz (FV.sl 1 tx)), (AV.fz (FV.int .i64 p))])] r h :=
  Fn.by_trC (M := (modeX [] [(36, [(Sig.mk 1 [(false, [(AT.k CK.bool)])] [(OT.g 66 [(AT.k (CK.sl 1)), (AT.k (CK.int .i64))])] 0)]), (76, [(Sig.mk 1 [(false, [(AT.k (CK.int .i64))])] [(OT.g 66 [(AT.k (CK.sl 1)), (AT.k (CK.int .i64))])] 0)]), (78, [(Sig.mk 1 [(false, [(AT.k CK.bool)])] [(OT.g 66 [(AT.k (CK.sl 1)), (AT.k (CK.int .i64))])] 0)]), (79, [(Sig.mk 1 [(true, [(AT.k (CK.int .i64)), (AT.k CK.str), (AT.k CK.bool), (AT.k (CK.sl 1)), (AT.k (CK.sl 6)), (AT.k (CK.int .i64))]), (false, [(AT.k CK.bool)])] [(OT.g 66 [(AT.k (CK.sl 1)), (AT.k (CK.int .i64))])] 0)])] [] 1 (fun _ _ => False))) (lv := token_scanner_nextO_lv) (own := (some 1)) (F := Tryz.f37) (by kernel_rfl) (by kernel_rfl) (by first | decide | simp) (fun _ _ h => h) (by kernel_rfl) H
theorem token_scanner_nextO_fx (tx : List (List FV)) (p : Int) {x : FV} (H : token_scanner_nextO_H (fun _ _ => False) (fun x' h' => x' = x ∧ h' = shH [(Ob.g 66 [(AV.fz (FV.sl 1 tx)), (AV.fz (FV.int .i64 p))])]) tx p) : FnX Tryz.prog 37 [(TV.one (AV.ptr 0 0 0 66))] [(Ob.g 66 [(AV.fz (FV.sl 1 tx)), (AV.fz (FV.int .i64 p))])] x :=
  FnX.by_tr (M := (modeX [] [(36, [(Sig.mk 1 [(false, [(AT.k CK.bool)])] [(OT.g 66 [(AT.k (CK.sl 1)), (AT.k (CK.int .i64))])] 0)]), (76, [(Sig.mk 1 [(false, [(AT.k (CK.int .i64))])] [(OT.g 66 [(AT.k (CK.sl 1)), (AT.k (CK.int .i64))])] 0)]), (78, [(Sig.mk 1 [(false, [(AT.k CK.bool)])] [(OT.g 66 [(AT.k (CK.sl 1)), (AT.k (CK.int .i64))])] 0)]), (79, [(Sig.mk 1 [(true, [(AT.k (CK.int .i64)), (AT.k CK.str), (AT.k CK.bool), (AT.k (CK.sl 1)), (AT.k (CK.sl 6)), (AT.k (CK.int .i64))]), (false, [(AT.k CK.bool)])] [(OT.g 66 [(AT.k (CK.sl 1)), (AT.k (CK.int .i64))])] 0)])] [] 1 (fun x' h' => x' = x ∧ h' = shH [(Ob.g 66 [(AV.fz (FV.sl 1 tx)), (AV.fz (FV.int .i64 p))])]))) (lv := token_scanner_nextO_lv) (own := (some 1)) (F := Tryz.f37) (by kernel_rfl) (by kernel_rfl) (by first | decide | simp) (fun _ _ h => h) (by kernel_rfl) H
end Go.Proofs.YtejefchehdifhaaGreatDoor.Ev
end
