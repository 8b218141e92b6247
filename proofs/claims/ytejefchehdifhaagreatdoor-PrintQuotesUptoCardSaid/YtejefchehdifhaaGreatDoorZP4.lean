/-
  Part of a claim: definitions and lemmas that its theorem leans on, packed by wip/tools/pack.py.
-/
import Derived.Test.YtejefchehdifhaaGreatDoorZP3
import Derived.Test.YtejefchehdifhaaGreatDoorTie
import Derived.Test.YtejefchehdifhaaGreatDoorCards
import Derived.ProofKit
import Derived.ShutString
import Derived.Lay
import Derived.Stop.Joined
import Derived.SevenTiedAt
set_option linter.unusedVariables false
set_option linter.unusedSimpArgs false
section
set_option linter.unusedVariables false
set_option linter.unusedSimpArgs false
namespace Go.Proofs.YtejefchehdifhaaGreatDoor.Ev
open Go
theorem Ty.inv_str {P : Program} {t : TypeId} {fs : List FV} (h : Ty P t fs) (hu : P.underlying t = some .string) : ∃ s, fs = [.str s] ∧ s.size ≤ reachBytes := by
  cases h <;> simp_all
theorem tyV_str {t : TypeId} {x : TV} (h : TyV Tryz.prog t x) (hu : Tryz.prog.underlying t = some .string) : ∃ s : ByteArray, x = .one (.fz (.str s)) ∧ s.size ≤ 140737488355328 := by
  rcases h with ⟨fs, rfl, h, ds, hd⟩ | ⟨f, rfl, h⟩
  · rw [hu] at hd; cases hd
  · obtain ⟨s, h, h1⟩ := h.inv_str hu
    cases h
    exact ⟨s, rfl, Nat.le_trans h1 (by decide)⟩
end Go.Proofs.YtejefchehdifhaaGreatDoor.Ev
end
section
set_option linter.unusedVariables false
set_option linter.unusedSimpArgs false
namespace Go.Proofs.YtejefchehdifhaaGreatDoor.Ev
open Go
inductive Dt where
  | mk (kind : Int) (text : ByteArray) (neg : Bool) (limbs : List Int) (list : List Dt) (at_ : Int)
mutual
def Dt.row : Dt → List FV
  | .mk k t n l ds a => [.int .i64 k, .str t, .bool n, .sl 1 (ints .u32 l), .sl 6 (Dt.rows ds), .int .i64 a]
def Dt.rows : List Dt → List (List FV)
  | [] => []
  | d :: ds => d.row :: Dt.rows ds
end
abbrev fzD (d : Dt) : TV := .agg (d.row.map .fz)
theorem rows_get : ∀ (ds : List Dt) (i : Nat), (Dt.rows ds)[i]? = ds[i]?.map Dt.row
  | [], i => by simp [Dt.rows]
  | d :: ds, 0 => by simp [Dt.rows]
  | d :: ds, i + 1 => by simp [Dt.rows, rows_get ds i]
theorem rows_len (ds : List Dt) : (Dt.rows ds).length = ds.length := by
  induction ds with
  | nil => rfl
  | cons d ds ih => simp [Dt.rows, ih]
def I64 (n : Int) : Prop := -9223372036854775808 ≤ n ∧ n ≤ 9223372036854775807
mutual
def Dt.ok : Dt → Prop
  | .mk k t _ l ds a => I64 k ∧ t.size ≤ 1048576 ∧ U32 l ∧ l.length * 4 ≤ 140737488355328 ∧ ds.length ≤ 1048576 ∧ Dt.oks ds ∧ I64 a
def Dt.oks : List Dt → Prop
  | [] => True
  | d :: ds => d.ok ∧ Dt.oks ds
end
end Go.Proofs.YtejefchehdifhaaGreatDoor.Ev
end
section
set_option linter.unusedVariables false
set_option linter.unusedSimpArgs false
namespace Go.Proofs.YtejefchehdifhaaGreatDoor.Ev
open Go
theorem drow_at {xs : List Dt} {i : Nat} {x : Dt} (h : xs[i]? = some x) : (Dt.rows xs)[i]? = some x.row := by rw [rows_get, h]; rfl
end Go.Proofs.YtejefchehdifhaaGreatDoor.Ev
end
section
set_option linter.unusedVariables false
set_option maxRecDepth 100000
namespace Go.Proofs.YtejefchehdifhaaGreatDoor.Ev
open Go
def ref02_hexText_lv : List Nat → Keep := lvOf []
def ref02_hexText_H (R : TV → List Ob → Prop) (c : Int) : Prop :=
  ((((decide (c < 16)) = true) → ((((0 : Int) ≤ c) ∧ ((c ≤ (IntKind.wrap .i64 (c + 1))) ∧ ((IntKind.wrap .i64 (c + 1)) ≤ (((ByteArray.size (ByteArray.mk #[48, 49, 50, 51, 52, 53, 54, 55, 56, 57, 97, 98, 99, 100, 101, 102])) : Nat) : Int)))) ∧ (R (TV.one (AV.fz (FV.str (ByteArray.extract (ByteArray.mk #[48, 49, 50, 51, 52, 53, 54, 55, 56, 57, 97, 98, 99, 100, 101, 102]) (Int.toNat c) (Int.toNat (IntKind.wrap .i64 (c + 1))))))) []))) ∧ (((decide (c < 16)) = false) → (((16 : Int) ≠ 0) ∧ (∃ s1 : ByteArray, ((Fn Tryz.prog 68 [(TV.one (AV.fz (FV.int .i64 (IntKind.wrap .i64 (Int.tdiv c 16)))))] [] (TV.one (AV.fz (FV.str s1))) []) ∧ (((16 : Int) ≠ 0) ∧ (((16 : Int) ≠ 0) ∧ ((((0 : Int) ≤ (Int.tmod c 16)) ∧ (((Int.tmod c 16) ≤ (IntKind.wrap .i64 ((Int.tmod c 16) + 1))) ∧ ((IntKind.wrap .i64 ((Int.tmod c 16) + 1)) ≤ (((ByteArray.size (ByteArray.mk #[48, 49, 50, 51, 52, 53, 54, 55, 56, 57, 97, 98, 99, 100, 101, 102])) : Nat) : Int)))) ∧ ((((ByteArray.size s1) + (ByteArray.size (ByteArray.extract (ByteArray.mk #[48, 49, 50, 51, 52, 53, 54, 55, 56, 57, 97, 98, 99, 100, 101, 102]) (Int.toNat (Int.tmod c 16)) (Int.toNat (IntKind.wrap .i64 ((Int.tmod c 16) + 1)))))) ≤ 9223372036854775807) ∧ (R (TV.one (AV.fz (FV.str (s1 ++ (ByteArray.extract (ByteArray.mk #[48, 49, 50, 51, 52, 53, 54, 55, 56, 57, 97, 98, 99, 100, 101, 102]) (Int.toNat (Int.tmod c 16)) (Int.toNat (IntKind.wrap .i64 ((Int.tmod c 16) + 1)))))))) []))))))))))
theorem ref02_hexText_fn (c : Int) {r : TV} {h : List Ob} (H : ref02_hexText_H (fun r' h' => r' = r ∧ h' = h) c) : Fn Tryz.prog 68 [(TV.one (AV.fz (FV.int .i64 c)))] [] r h :=
  Fn.by_tr (M := (modeOf [] [])) (lv := ref02_hexText_lv) (own := none) (F := Tryz.f68) (by kernel_rfl) (by kernel_rfl) (by first | decide | simp) (fun _ _ h => h) (by kernel_rfl) H
def ref02_Quoted_lv : List Nat → Keep := lvOf [([0, 0, 1, 1, 1, 1], ⟨57, 0, [], false, false⟩)]
def ref02_Quoted_S0 (s : ByteArray) (out : ByteArray) (i : Int) : St := (St.mk [(TV.one (AV.fz (FV.str s))), TV.und, TV.und, (TV.one (AV.fz (FV.str out))), (TV.one (AV.fz (FV.sl 1 (List.map (fun b10 => [(FV.int .u8 (((UInt8.toNat b10) : Nat) : Int))]) (Array.toList (ByteArray.data s)))))), (TV.one (AV.fz (FV.int .i64 i))), TV.und, TV.und, TV.und, TV.und, TV.und, TV.und, TV.und, TV.und, TV.und, TV.und, TV.und, TV.und, TV.und, TV.und, TV.und, TV.und, TV.und, TV.und, TV.und, TV.und, TV.und, TV.und, TV.und, TV.und, TV.und, TV.und, TV.und, TV.und, TV.und, TV.und, TV.und, TV.und, TV.und, TV.und, TV.und, TV.und, TV.und, TV.und, TV.und, TV.und, TV.und, TV.und, TV.und, TV.und, TV.und, TV.und, TV.und, TV.und, TV.und, TV.und, TV.und, TV.und, TV.und, TV.und, TV.und, TV.und, TV.und, TV.und, TV.und, TV.und, TV.und, TV.und, TV.und, TV.und, TV.und, TV.und, TV.und, TV.und, TV.und, TV.und, TV.und, TV.und, TV.und, TV.und, TV.und, TV.und, TV.und, TV.und, TV.und] [])
def ref02_Quoted_L0 (R : TV → List Ob → Prop) (s : ByteArray) (out : ByteArray) (i : Int) : Prop := LoopAt Tryz.prog (modeOf [] []) ref02_Quoted_lv Tryz.f25 none R [1, 1, 1, 1, 0, 0] (ref02_Quoted_S0 s out i)
def ref02_Quoted_R0 (R : TV → List Ob → Prop) (s : ByteArray) (out : ByteArray) (i : Int) : Prop :=
  ((((decide (i < (((List.length (List.map (fun b8 => [(FV.int .u8 (((UInt8.toNat b8) : Nat) : Int))]) (Array.toList (ByteArray.data s)))) : Nat) : Int))) = true) → (∃ n9 : Int, (∃ n10 : Int, ((Fn Tryz.prog 67 [(TV.one (AV.fz (FV.sl 1 (List.map (fun b7 => [(FV.int .u8 (((UInt8.toNat b7) : Nat) : Int))]) (Array.toList (ByteArray.data s)))))), (TV.one (AV.fz (FV.int .i64 i)))] [] (TV.tup [(false, [(AV.fz (FV.int .i64 n9))]), (false, [(AV.fz (FV.int .i64 n10))])]) []) ∧ ((((n10 == 0) = true) → ((((0 : Int) ≤ i) ∧ ((i ≤ (IntKind.wrap .i64 (i + 1))) ∧ ((IntKind.wrap .i64 (i + 1)) ≤ (((ByteArray.size s) : Nat) : Int)))) ∧ ((((ByteArray.size out) + (ByteArray.size (ByteArray.extract s (Int.toNat i) (Int.toNat (IntKind.wrap .i64 (i + 1)))))) ≤ 9223372036854775807) ∧ (ref02_Quoted_L0 R s (out ++ (ByteArray.extract s (Int.toNat i) (Int.toNat (IntKind.wrap .i64 (i + 1))))) (IntKind.wrap .i64 (i + 1)))))) ∧ (((n10 == 0) = false) → ((((n9 == 92) = true) → ((((ByteArray.size out) + (ByteArray.size (ByteArray.mk #[92]))) ≤ 9223372036854775807) ∧ (∃ es4 : List (List FV), ((Fn Tryz.prog 46 [(TV.one (AV.fz (FV.int .i64 n9)))] [] (TV.one (AV.fz (FV.sl 1 es4))) []) ∧ (∃ ns4 : List Int, ((es4 = (List.map (fun n11 => [(FV.int .u8 n11)]) ns4)) ∧ ((((ByteArray.size (out ++ (ByteArray.mk #[92]))) + (ByteArray.size (bytesOf ns4))) ≤ 9223372036854775807) ∧ (ref02_Quoted_L0 R s ((out ++ (ByteArray.mk #[92])) ++ (bytesOf ns4)) (IntKind.wrap .i64 (i + n10)))))))))) ∧ (((n9 == 92) = false) → ((((n9 == 34) = true) → ((((ByteArray.size out) + (ByteArray.size (ByteArray.mk #[92]))) ≤ 9223372036854775807) ∧ (∃ es5 : List (List FV), ((Fn Tryz.prog 46 [(TV.one (AV.fz (FV.int .i64 n9)))] [] (TV.one (AV.fz (FV.sl 1 es5))) []) ∧ (∃ ns5 : List Int, ((es5 = (List.map (fun n12 => [(FV.int .u8 n12)]) ns5)) ∧ ((((ByteArray.size (out ++ (ByteArray.mk #[92]))) + (ByteArray.size (bytesOf ns5))) ≤ 9223372036854775807) ∧ (ref02_Quoted_L0 R s ((out ++ (ByteArray.mk #[92])) ++ (bytesOf ns5)) (IntKind.wrap .i64 (i + n10)))))))))) ∧ (((n9 == 34) = false) → ((((n9 == 10) = true) → ((((ByteArray.size out) + (ByteArray.size (ByteArray.mk #[92, 110]))) ≤ 9223372036854775807) ∧ (ref02_Quoted_L0 R s (out ++ (ByteArray.mk #[92, 110])) (IntKind.wrap .i64 (i + n10))))) ∧ (((n9 == 10) = false) → ((((n9 == 9) = true) → ((((ByteArray.size out) + (ByteArray.size (ByteArray.mk #[92, 116]))) ≤ 9223372036854775807) ∧ (ref02_Quoted_L0 R s (out ++ (ByteArray.mk #[92, 116])) (IntKind.wrap .i64 (i + n10))))) ∧ (((n9 == 9) = false) → ((((n9 == 13) = true) → ((((ByteArray.size out) + (ByteArray.size (ByteArray.mk #[92, 114]))) ≤ 9223372036854775807) ∧ (ref02_Quoted_L0 R s (out ++ (ByteArray.mk #[92, 114])) (IntKind.wrap .i64 (i + n10))))) ∧ (((n9 == 13) = false) → ((((decide (n9 < 32)) = true) → ((((ByteArray.size out) + (ByteArray.size (ByteArray.mk #[92, 120]))) ≤ 9223372036854775807) ∧ (∃ s5 : ByteArray, ((Fn Tryz.prog 68 [(TV.one (AV.fz (FV.int .i64 n9)))] [] (TV.one (AV.fz (FV.str s5))) []) ∧ ((((ByteArray.size (out ++ (ByteArray.mk #[92, 120]))) + (ByteArray.size s5)) ≤ 9223372036854775807) ∧ ((((ByteArray.size ((out ++ (ByteArray.mk #[92, 120])) ++ s5)) + (ByteArray.size (ByteArray.mk #[59]))) ≤ 9223372036854775807) ∧ (ref02_Quoted_L0 R s (((out ++ (ByteArray.mk #[92, 120])) ++ s5) ++ (ByteArray.mk #[59])) (IntKind.wrap .i64 (i + n10))))))))) ∧ (((decide (n9 < 32)) = false) → ((((n9 == 127) = true) → ((((ByteArray.size out) + (ByteArray.size (ByteArray.mk #[92, 120]))) ≤ 9223372036854775807) ∧ (∃ s6 : ByteArray, ((Fn Tryz.prog 68 [(TV.one (AV.fz (FV.int .i64 n9)))] [] (TV.one (AV.fz (FV.str s6))) []) ∧ ((((ByteArray.size (out ++ (ByteArray.mk #[92, 120]))) + (ByteArray.size s6)) ≤ 9223372036854775807) ∧ ((((ByteArray.size ((out ++ (ByteArray.mk #[92, 120])) ++ s6)) + (ByteArray.size (ByteArray.mk #[59]))) ≤ 9223372036854775807) ∧ (ref02_Quoted_L0 R s (((out ++ (ByteArray.mk #[92, 120])) ++ s6) ++ (ByteArray.mk #[59])) (IntKind.wrap .i64 (i + n10))))))))) ∧ (((n9 == 127) = false) → ((((0 : Int) ≤ i) ∧ ((i ≤ (IntKind.wrap .i64 (i + n10))) ∧ ((IntKind.wrap .i64 (i + n10)) ≤ (((ByteArray.size s) : Nat) : Int)))) ∧ ((((ByteArray.size out) + (ByteArray.size (ByteArray.extract s (Int.toNat i) (Int.toNat (IntKind.wrap .i64 (i + n10)))))) ≤ 9223372036854775807) ∧ (ref02_Quoted_L0 R s (out ++ (ByteArray.extract s (Int.toNat i) (Int.toNat (IntKind.wrap .i64 (i + n10))))) (IntKind.wrap .i64 (i + n10))))))))))))))))))))))))) ∧ (((decide (i < (((List.length (List.map (fun b9 => [(FV.int .u8 (((UInt8.toNat b9) : Nat) : Int))]) (Array.toList (ByteArray.data s)))) : Nat) : Int))) = false) → ((((ByteArray.size out) + (ByteArray.size (ByteArray.mk #[34]))) ≤ 9223372036854775807) ∧ (R (TV.one (AV.fz (FV.str (out ++ (ByteArray.mk #[34]))))) []))))
theorem ref02_Quoted_l0 {R : TV → List Ob → Prop} {s : ByteArray} {out : ByteArray} {i : Int} (h : ref02_Quoted_R0 R s out i) : ref02_Quoted_L0 R s out i :=
  LoopAt.by_tr (by kernel_rfl) (by kernel_rfl) h
def ref02_Quoted_H (R : TV → List Ob → Prop) (s : ByteArray) : Prop :=
  (ref02_Quoted_L0 R s (ByteArray.mk #[34]) 0)
theorem ref02_Quoted_fn (s : ByteArray) {r : TV} {h : List Ob} (H : ref02_Quoted_H (fun r' h' => r' = r ∧ h' = h) s) : Fn Tryz.prog 25 [(TV.one (AV.fz (FV.str s)))] [] r h :=
  Fn.by_tr (M := (modeOf [] [])) (lv := ref02_Quoted_lv) (own := none) (F := Tryz.f25) (by kernel_rfl) (by kernel_rfl) (by first | decide | simp) (fun _ _ h => h) (by kernel_rfl) H
end Go.Proofs.YtejefchehdifhaaGreatDoor.Ev
end
section
set_option linter.unusedVariables false
set_option linter.unusedSimpArgs false
namespace Go.Proofs.YtejefchehdifhaaGreatDoor.Ev
open Go
def hxd (n : Int) : Int := if n < 10 then 48 + n else 87 + n
def hexT (c : Int) : List Int := if c < 16 then [hxd c] else [hxd (c / 16), hxd (c % 16)]
def hexAll : List Int := [48, 49, 50, 51, 52, 53, 54, 55, 56, 57, 97, 98, 99, 100, 101, 102]
theorem hexAll_mk : ByteArray.mk #[48, 49, 50, 51, 52, 53, 54, 55, 56, 57, 97, 98, 99, 100, 101, 102] = bytesOf hexAll := by decide +kernel
theorem hexAll_at : ∀ c : Fin 16, (hexAll.drop c.val).take 1 = [hxd (c.val : Int)] := by decide
theorem hexAll_cut {c : Int} (h0 : 0 ≤ c) (h1 : c < 16) : (bytesOf hexAll).extract (Int.toNat c) (Int.toNat (c + 1)) = bytesOf [hxd c] := by
  have h := hexAll_at ⟨c.toNat, by omega⟩
  simp only at h
  rw [extract_of, show Int.toNat (c + 1) - Int.toNat c = 1 by omega, h, show ((c.toNat : Nat) : Int) = c by omega]
theorem rHexText1 (c : Int) (h0 : 0 ≤ c) (h1 : c < 16) : Fn Tryz.prog 68 [fzI .i64 c] [] (.one (.fz (.str (bytesOf [hxd c])))) [] := by
  refine ref02_hexText_fn _ ?_
  unfold ref02_hexText_H
  rw [hexAll_mk, w64 (by omega) (by omega), hexAll_cut h0 h1]
  have hs : ((ByteArray.size (bytesOf hexAll) : Nat) : Int) = 16 := rfl
  rw [hs]
  exact ⟨fun _ => ⟨⟨by omega, by omega, by omega⟩, rfl, rfl⟩, fun h => absurd (of_decide_eq_false h) (by omega)⟩
theorem rHexText_ok (c : Int) (h0 : 0 ≤ c) (h1 : c < 256) : Fn Tryz.prog 68 [fzI .i64 c] [] (.one (.fz (.str (bytesOf (hexT c))))) [] := by
  by_cases h16 : c < 16
  · have := rHexText1 c h0 h16
    unfold hexT
    rw [if_pos h16]; exact this
  · refine ref02_hexText_fn _ ?_
    obtain ⟨R, hR, hRe⟩ := exR (.one (.fz (.str (bytesOf (hexT c))))); rw [hRe]; clear hRe
    unfold hexT at hR
    rw [if_neg h16] at hR
    unfold ref02_hexText_H
    have hd : Int.tdiv c 16 = c / 16 := Int.tdiv_eq_ediv_of_nonneg h0
    have hm : Int.tmod c 16 = c % 16 := Int.tmod_eq_emod_of_nonneg h0
    have hs : ((ByteArray.size (bytesOf hexAll) : Nat) : Int) = 16 := rfl
    rw [hexAll_mk, hd, hm, w64 (n := c / 16) (by omega) (by omega), w64 (n := c % 16 + 1) (by omega) (by omega), hexAll_cut (by omega) (by omega), hs]
    refine ⟨fun h => absurd (of_decide_eq_true h) (by omega), fun _ => ⟨by decide, _, rHexText1 (c / 16) (by omega) (by omega), by decide, by decide, ⟨by omega, by omega, by omega⟩, by rw [size_of, size_of]; simp, ?_⟩⟩
    rw [app_of]; exact hR
theorem hexT_bytes {c : Int} (h0 : 0 ≤ c) (h1 : c < 256) : Bytes (hexT c) ∧ (hexT c).length ≤ 2 := by
  unfold hexT hxd
  split
  · refine ⟨?_, by simp⟩
    intro x hx
    simp at hx
    split at hx <;> omega
  · refine ⟨?_, by simp⟩
    intro x hx
    simp at hx
    rcases hx with hx | hx
    · split at hx <;> omega
    · split at hx <;> omega
theorem ch1_take {l : List Int} (hl : Bytes l) (hne : l ≠ []) (h : (ch1 l).2 ≠ 0) : l.take (ch1 l).2.toNat = utfB (ch1 l).1 := by
  have b0 := rd_byte hl 0; have b1 := rd_byte hl 1; have b2 := rd_byte hl 2; have b3 := rd_byte hl 3
  have hbd := ch1_bounds hl hne
  have t1 : 1 ≤ l.length → l.take 1 = [rd l 0] := fun h => by
    rw [show l = rd l 0 :: l.drop 1 from by have := drop_rd' l 0 (by omega); simpa using this]; rfl
  have tk : ∀ n, n < l.length → l.take (n + 1) = l.take n ++ [rd l n] := fun n h => by rw [List.take_add_one, some_rd h]; rfl
  have hl1 : 1 ≤ l.length := by have : l.length ≠ 0 := fun e => hne (List.length_eq_zero_iff.1 e); omega
  generalize hp : ch1 l = p at *
  unfold ch1 chN at hp
  unfold utfB
  by_cases c1 : rd l 0 < 128
  · rw [if_pos c1] at hp
    subst hp
    simp only
    rw [if_pos c1]
    exact t1 hl1
  · rw [if_neg c1] at hp
    by_cases c2 : 192 ≤ rd l 0 ∧ rd l 0 < 224
    · rw [if_pos c2] at hp
      split at hp
      · rename_i hc
        subst hp
        simp only
        rw [if_neg (by omega), if_pos (by omega), show Int.toNat 2 = 1 + 1 from rfl, tk 1 (by omega), t1 hl1]
        simp only [List.cons_append, List.nil_append, List.cons.injEq, and_true]
        omega
      · subst hp; exact absurd rfl h
    · rw [if_neg c2] at hp
      by_cases c3 : 224 ≤ rd l 0 ∧ rd l 0 < 240
      · rw [if_pos c3] at hp
        split at hp
        · rename_i hc
          subst hp
          simp only
          rw [if_neg (by omega), if_neg (by omega), if_pos (by omega), show Int.toNat 3 = 1 + 1 + 1 from rfl, tk (1 + 1) (by omega), tk 1 (by omega), t1 hl1]
          simp only [List.cons_append, List.nil_append, List.cons.injEq, and_true, Nat.reduceAdd]
          omega
        · subst hp; exact absurd rfl h
      · rw [if_neg c3] at hp
        split at hp
        · split at hp
          · rename_i hc
            subst hp
            simp only
            rw [if_neg (by omega), if_neg (by omega), if_neg (by omega), show Int.toNat 4 = 1 + 1 + 1 + 1 from rfl, tk (1 + 1 + 1) (by omega), tk (1 + 1) (by omega), tk 1 (by omega), t1 hl1]
            simp only [List.cons_append, List.nil_append, List.cons.injEq, and_true, Nat.reduceAdd]
            omega
          · subst hp; exact absurd rfl h
        · subst hp; exact absurd rfl h
def escL (c : Int) : List Int :=
  if c = 92 ∨ c = 34 then [92, c] else if c = 10 then [92, 110] else if c = 9 then [92, 116] else if c = 13 then [92, 114]
  else if c < 32 ∨ c = 127 then [92, 120] ++ hexT c ++ [59] else utfB c
def quoS : Nat → List Int → List Int
  | 0, _ => [34]
  | f + 1, l => if l = [] then [34] else if (ch1 l).2 = 0 then rd l 0 :: quoS f (l.drop 1) else escL (ch1 l).1 ++ quoS f (l.drop (ch1 l).2.toNat)
def quoV (T : List Int) : List Int := 34 :: quoS (T.length + 1) T
theorem escL_len {c : Int} (h0 : 0 ≤ c) : (escL c).length ≤ 6 := by
  unfold escL
  repeat' split
  all_goals try (simp; done)
  · have := (hexT_bytes (c := c) h0 (by omega)).2
    simp; omega
  · have := utfB_le c
    omega
theorem quoted_loop (T : List Int) (hT : Bytes T) (hlen : T.length ≤ 140737488355328) (R : TV → List Ob → Prop) : ∀ (f i : Nat) (out : List Int), T.length - i < f → i ≤ T.length → out.length ≤ 7 * i + 1 →
    R (.one (.fz (.str (bytesOf (out ++ quoS f (T.drop i)))))) [] → ref02_Quoted_L0 R (bytesOf T) (bytesOf out) i := by
  intro f
  induction f with
  | zero => intro i out hf; omega
  | succ f ih =>
    intro i out hf hi ho hR
    refine ref02_Quoted_l0 ?_
    unfold ref02_Quoted_R0
    rw [map_bs, bs_of hT, ints_len]
    simp only [beq_t, beq_f, dec_t, dec_f]
    by_cases hlt : i < T.length
    · have hne : T.drop i ≠ [] := fun e => by have := congrArg List.length e; simp at this; omega
      have hb := drop_bytes hT i
      have hbd := ch1_bounds hb hne
      have htk := ch1_take hb hne
      rw [List.length_drop] at hbd
      have hO := one_ok T hT (by omega) i hlt
      unfold quoS at hR
      rw [if_neg hne] at hR
      refine ⟨fun _ => ⟨_, _, hO, ?_⟩, fun h => absurd h (by omega)⟩
      generalize hp : ch1 (T.drop i) = p at *
      obtain ⟨c, n⟩ := p
      simp only at hbd htk hR ⊢
      have cut : ∀ m : Nat, i + m ≤ T.length → (bytesOf T).extract (Int.toNat ((i : Nat) : Int)) (Int.toNat ((i + m : Nat) : Int)) = bytesOf ((T.drop i).take m) := fun m hm => by
        rw [extract_of, Int.toNat_natCast, Int.toNat_natCast, show i + m - i = m by omega]
      refine ⟨fun h0 => ?_, fun h0 => ?_⟩
      · rw [if_pos h0, rd_dropN, List.drop_drop] at hR
        rw [w64 (by omega) (by omega)]
        have e1 := cut 1 (by omega)
        rw [show ((i + 1 : Nat) : Int) = (i : Int) + 1 by omega] at e1
        have e2 : (T.drop i).take 1 = [rd T i] := by rw [drop_rd' T i hlt]; rfl
        rw [e1, e2, app_of]
        refine ⟨⟨by omega, by omega, by rw [size_of]; omega⟩, by rw [size_of, size_of]; simp only [List.length_cons, List.length_nil]; omega, ?_⟩
        have := ih (i + 1) (out ++ [rd T i]) (by omega) (by omega) (by simp; omega) (by rw [List.append_assoc]; exact hR)
        rw [show ((i + 1 : Nat) : Int) = (i : Int) + 1 by omega] at this
        exact this
      · rw [if_neg h0, List.drop_drop] at hR
        have hel := escL_len (c := c) hbd.1
        rw [w64 (n := (i : Int) + n) (by omega) (by omega)]
        have next : ∀ E, escL c = E → ref02_Quoted_L0 R (bytesOf T) (bytesOf (out ++ E)) ((i : Int) + n) := fun E hE => by
          have := ih (i + n.toNat) (out ++ E) (by omega) (by omega) (by rw [List.length_append, ← hE]; omega) (by rw [List.append_assoc, ← hE]; exact hR)
          rw [show ((i + n.toNat : Nat) : Int) = (i : Int) + n by omega] at this
          exact this
        have two : ∀ (a : Int) (A : Array UInt8), ByteArray.mk A = bytesOf [92, a] → escL c = [92, a] → ((ByteArray.size (bytesOf out) + ByteArray.size (ByteArray.mk A)) ≤ 9223372036854775807) ∧ ref02_Quoted_L0 R (bytesOf T) (bytesOf out ++ ByteArray.mk A) ((i : Int) + n) := fun a A hA hE => by
          rw [hA, app_of, size_of, size_of]
          exact ⟨by simp only [List.length_cons, List.length_nil]; omega, next _ hE⟩
        have e92 : ByteArray.mk #[92] = bytesOf [92] := by decide +kernel
        have slash : c = 92 ∨ c = 34 → ((ByteArray.size (bytesOf out) + ByteArray.size (ByteArray.mk #[92])) ≤ 9223372036854775807) ∧ ∃ es4 : List (List FV), (Fn Tryz.prog 46 [.one (.fz (.int .i64 c))] [] (.one (.fz (.sl 1 es4))) []) ∧ ∃ ns4 : List Int, es4 = List.map (fun n11 => [FV.int .u8 n11]) ns4 ∧ ((ByteArray.size (bytesOf out ++ ByteArray.mk #[92]) + ByteArray.size (bytesOf ns4)) ≤ 9223372036854775807) ∧ ref02_Quoted_L0 R (bytesOf T) ((bytesOf out ++ ByteArray.mk #[92]) ++ bytesOf ns4) ((i : Int) + n) := fun hc => by
          have hsc : scalB c = true := by rcases hc with rfl | rfl <;> decide
          have hu : utfB c = [c] := by rcases hc with rfl | rfl <;> rfl
          have hB := rBytes_ok c hsc
          rw [hu] at hB
          rw [e92, app_of, size_of, size_of]
          refine ⟨by simp only [List.length_cons, List.length_nil]; omega, _, hB, [c], rfl, ?_, ?_⟩
          · rw [size_of, size_of]; simp; omega
          · rw [app_of, List.append_assoc]
            exact next _ (by unfold escL; rw [if_pos hc]; rfl)
        have hex : (c < 32 ∨ c = 127) → escL c = [92, 120] ++ hexT c ++ [59] → ((ByteArray.size (bytesOf out) + ByteArray.size (ByteArray.mk #[92, 120])) ≤ 9223372036854775807) ∧ ∃ s5 : ByteArray, (Fn Tryz.prog 68 [.one (.fz (.int .i64 c))] [] (.one (.fz (.str s5))) []) ∧ ((ByteArray.size (bytesOf out ++ ByteArray.mk #[92, 120]) + ByteArray.size s5) ≤ 9223372036854775807) ∧ ((ByteArray.size ((bytesOf out ++ ByteArray.mk #[92, 120]) ++ s5) + ByteArray.size (ByteArray.mk #[59])) ≤ 9223372036854775807) ∧ ref02_Quoted_L0 R (bytesOf T) (((bytesOf out ++ ByteArray.mk #[92, 120]) ++ s5) ++ ByteArray.mk #[59]) ((i : Int) + n) := fun hc hE => by
          have h2 := (hexT_bytes (c := c) hbd.1 (by omega)).2
          rw [show ByteArray.mk #[92, 120] = bytesOf [92, 120] from by decide +kernel, show ByteArray.mk #[59] = bytesOf [59] from by decide +kernel, app_of, size_of, size_of]
          refine ⟨by simp only [List.length_cons, List.length_nil]; omega, _, rHexText_ok c hbd.1 (by omega), ?_, ?_, ?_⟩
          · rw [size_of, size_of]; simp; omega
          · rw [app_of, size_of, size_of]; simp; omega
          · rw [app_of, app_of, show out ++ [92, 120] ++ hexT c ++ [59] = out ++ ([92, 120] ++ hexT c ++ [59]) by simp]
            exact next _ hE
        refine ⟨fun c1 => slash (.inl c1), fun c1 => ⟨fun c2 => slash (.inr c2), fun c2 => ⟨fun c3 => two 110 _ (by decide +kernel) ?_, fun c3 => ⟨fun c4 => two 116 _ (by decide +kernel) ?_, fun c4 => ⟨fun c5 => two 114 _ (by decide +kernel) ?_, fun c5 => ⟨fun c6 => hex (.inl c6) ?_, fun c6 => ⟨fun c7 => hex (.inr c7) ?_, fun c7 => ?_⟩⟩⟩⟩⟩⟩⟩
        all_goals clear slash two hex
        · unfold escL; rw [if_neg (by omega), if_pos c3]
        · unfold escL; rw [if_neg (by omega), if_neg c3, if_pos c4]
        · unfold escL; rw [if_neg (by omega), if_neg c3, if_neg c4, if_pos c5]
        · unfold escL; rw [if_neg (by omega), if_neg c3, if_neg c4, if_neg c5, if_pos (.inl c6)]
        · unfold escL; rw [if_neg (by omega), if_neg c3, if_neg c4, if_neg c5, if_pos (.inr c7)]
        · have hE : escL c = utfB c := by unfold escL; rw [if_neg (by omega), if_neg c3, if_neg c4, if_neg c5, if_neg (by omega)]
          have e1 := cut n.toNat (by omega)
          rw [show ((i + n.toNat : Nat) : Int) = (i : Int) + n by omega, htk h0] at e1
          have hu := utfB_le c
          rw [e1, app_of]
          exact ⟨⟨by omega, by omega, by rw [size_of]; omega⟩, by rw [size_of, size_of]; omega, next _ hE⟩
    · refine ⟨fun h => absurd h (by omega), fun _ => ?_⟩
      unfold quoS at hR
      rw [if_pos (List.drop_eq_nil_of_le (by omega))] at hR
      rw [show ByteArray.mk #[34] = bytesOf [34] from by decide +kernel, app_of, size_of, size_of]
      exact ⟨by simp only [List.length_cons, List.length_nil]; omega, hR⟩
theorem rQuoted_ok (T : List Int) (hT : Bytes T) (hlen : T.length ≤ 140737488355328) : Fn Tryz.prog 25 [.one (.fz (.str (bytesOf T)))] [] (.one (.fz (.str (bytesOf (quoV T))))) [] := by
  refine ref02_Quoted_fn _ ?_
  obtain ⟨R, hR, hRe⟩ := exR (.one (.fz (.str (bytesOf (quoV T))))); rw [hRe]; clear hRe
  unfold ref02_Quoted_H
  rw [show ByteArray.mk #[34] = bytesOf [34] from by decide +kernel]
  exact quoted_loop T hT hlen R (T.length + 1) 0 [34] (by omega) (by omega) (by simp) hR
def nameL (c : Int) : List Int :=
  if c = 32 then [115, 112, 97, 99, 101] else if c = 10 then [110, 101, 119, 108, 105, 110, 101] else if c = 9 then [116, 97, 98] else if c = 13 then [114, 101, 116, 117, 114, 110] else if c = 0 then [110, 117, 108, 108] else if c = 127 then [100, 101, 108, 101, 116, 101]
  else if c < 32 then 120 :: hexT c else utfB c
end Go.Proofs.YtejefchehdifhaaGreatDoor.Ev
end
section
set_option linter.unusedVariables false
set_option maxRecDepth 100000
namespace Go.Proofs.YtejefchehdifhaaGreatDoor.Ev
open Go
def strconv_FormatInt_lv : List Nat → Keep := lvOf []
def strconv_FormatInt_H (R : TV → List Ob → Prop) (i : Int) : Prop :=
  (∃ s1 : ByteArray, ((Fn Tryz.prog 128 [(TV.one (AV.fz (FV.int .i64 i))), (TV.one (AV.fz (FV.int .i64 16)))] [] (TV.one (AV.fz (FV.str s1))) []) ∧ (R (TV.one (AV.fz (FV.str s1))) [])))
theorem strconv_FormatInt_fn (i : Int) {r : TV} {h : List Ob} (H : strconv_FormatInt_H (fun r' h' => r' = r ∧ h' = h) i) : Fn Tryz.prog 100 [(TV.one (AV.fz (FV.int .i64 i))), (TV.one (AV.fz (FV.int .i64 16)))] [] r h :=
  Fn.by_tr (M := (modeC [] [])) (lv := strconv_FormatInt_lv) (own := none) (F := Tryz.f100) (by kernel_rfl) (by kernel_rfl) (by first | decide | simp) (fun _ _ h => h) (by kernel_rfl) H
def internal_strconv_FormatInt_lv : List Nat → Keep := lvOf []
def internal_strconv_FormatInt_H (R : TV → List Ob → Prop) (i : Int) : Prop :=
  (∃ es1 : List (List FV), (∃ s1 : ByteArray, ((Fn Tryz.prog 151 [(TV.one (AV.fz (FV.sl 1 ([] : List (List FV))))), (TV.one (AV.fz (FV.int .u64 (IntKind.wrap .u64 i)))), (TV.one (AV.fz (FV.int .i64 16))), (TV.one (AV.fz (FV.bool (decide (i < 0))))), (TV.one (AV.fz (FV.bool false)))] [] (TV.tup [(false, [(AV.fz (FV.sl 1 es1))]), (false, [(AV.fz (FV.str s1))])]) []) ∧ (R (TV.one (AV.fz (FV.str s1))) []))))
theorem internal_strconv_FormatInt_fn (i : Int) {r : TV} {h : List Ob} (H : internal_strconv_FormatInt_H (fun r' h' => r' = r ∧ h' = h) i) : Fn Tryz.prog 128 [(TV.one (AV.fz (FV.int .i64 i))), (TV.one (AV.fz (FV.int .i64 16)))] [] r h :=
  Fn.by_tr (M := (modeC [] [])) (lv := internal_strconv_FormatInt_lv) (own := none) (F := Tryz.f128) (by kernel_rfl) (by kernel_rfl) (by first | decide | simp) (fun _ _ h => h) (by kernel_rfl) H
def internal_strconv_formatBits_lv : List Nat → Keep := lvOf [([0, 0, 1, 1, 1, 0, 1, 0, 1, 1, 1, 1, 1], ⟨130075, 0, [], false, false⟩), ([0, 0, 1, 1, 1, 0, 1, 1, 1, 1, 1], ⟨146459, 0, [], false, false⟩)]
def internal_strconv_formatBits_S0 (u1 : Int) (i : Int) (shift : Int) (o : List (List FV)) : St := (St.mk [(TV.one (AV.fz (FV.sl 1 ([] : List (List FV))))), (TV.one (AV.fz (FV.int .u64 u1))), TV.und, (TV.one (AV.fz (FV.bool false))), (TV.one (AV.fz (FV.bool false))), TV.und, TV.und, TV.und, TV.und, TV.und, (TV.one (AV.ofl 1 0)), (TV.one (AV.fz (FV.str (ByteArray.mk #[])))), (TV.one (AV.ptr 1 0 0 0)), (TV.one (AV.fz (FV.int .i64 i))), (TV.one (AV.fz (FV.int .u64 shift))), (TV.one (AV.fz (FV.int .u64 (IntKind.wrap .u64 16)))), (TV.one (AV.fz (FV.int .u64 (IntKind.wrap .u64 ((IntKind.wrap .u64 16) - 1))))), TV.und, TV.und, TV.und, TV.und, TV.und, TV.und, TV.und, TV.und, TV.und, TV.und, TV.und, TV.und, TV.und, TV.und, TV.und, TV.und, TV.und, TV.und, TV.und, TV.und, TV.und, TV.und, TV.und, TV.und, TV.und, TV.und, TV.und, TV.und, TV.und, TV.und, TV.und, TV.und, TV.und, TV.und, TV.und, TV.und, TV.und, TV.und, TV.und, TV.und, TV.und, TV.und, TV.und, TV.und, TV.und, TV.und, TV.und, TV.und, TV.und, TV.und, TV.und, TV.und, TV.und, TV.und, TV.und, TV.und, TV.und, TV.und, TV.und, TV.und, TV.und, TV.und, TV.und, TV.und, TV.und, TV.und, TV.und, TV.und, TV.und, TV.und, TV.und, TV.und, TV.und, TV.und, TV.und, TV.und, TV.und, TV.und, TV.und, TV.und, TV.und, TV.und, TV.und, TV.und, TV.und] [(Ob.f 0 1 ([] : List (List FV))), (Ob.f 0 1 o)])
def internal_strconv_formatBits_L0 (R : TV → List Ob → Prop) (u1 : Int) (i : Int) (shift : Int) (o : List (List FV)) : Prop := LoopAt Tryz.prog (modeC [] []) internal_strconv_formatBits_lv Tryz.f151 none R [1, 1, 1, 1, 1, 0, 1, 0, 1, 1, 1, 0, 0] (internal_strconv_formatBits_S0 u1 i shift o)
def internal_strconv_formatBits_S1 (u2 : Int) (i1 : Int) (o1 : List (List FV)) : St := (St.mk [(TV.one (AV.fz (FV.sl 1 ([] : List (List FV))))), (TV.one (AV.fz (FV.int .u64 u2))), TV.und, (TV.one (AV.fz (FV.bool false))), (TV.one (AV.fz (FV.bool false))), TV.und, TV.und, TV.und, TV.und, TV.und, (TV.one (AV.ofl 1 0)), (TV.one (AV.fz (FV.str (ByteArray.mk #[])))), (TV.one (AV.ptr 1 0 0 0)), (TV.one (AV.fz (FV.int .i64 i1))), TV.und, TV.und, TV.und, (TV.one (AV.fz (FV.int .u64 (IntKind.wrap .u64 16)))), TV.und, TV.und, TV.und, TV.und, TV.und, TV.und, TV.und, TV.und, TV.und, TV.und, TV.und, TV.und, TV.und, TV.und, TV.und, TV.und, TV.und, TV.und, TV.und, TV.und, TV.und, TV.und, TV.und, TV.und, TV.und, TV.und, TV.und, TV.und, TV.und, TV.und, TV.und, TV.und, TV.und, TV.und, TV.und, TV.und, TV.und, TV.und, TV.und, TV.und, TV.und, TV.und, TV.und, TV.und, TV.und, TV.und, TV.und, TV.und, TV.und, TV.und, TV.und, TV.und, TV.und, TV.und, TV.und, TV.und, TV.und, TV.und, TV.und, TV.und, TV.und, TV.und, TV.und, TV.und, TV.und, TV.und, TV.und, TV.und, TV.und, TV.und, TV.und, TV.und, TV.und, TV.und, TV.und, TV.und, TV.und, TV.und, TV.und, TV.und, TV.und, TV.und, TV.und, TV.und] [(Ob.f 0 1 ([] : List (List FV))), (Ob.f 0 1 o1)])
def internal_strconv_formatBits_L1 (R : TV → List Ob → Prop) (u2 : Int) (i1 : Int) (o1 : List (List FV)) : Prop := LoopAt Tryz.prog (modeC [] []) internal_strconv_formatBits_lv Tryz.f151 none R [1, 1, 1, 1, 1, 0, 1, 1, 1, 0, 0] (internal_strconv_formatBits_S1 u2 i1 o1)
def internal_strconv_formatBits_R0 (R : TV → List Ob → Prop) (u1 : Int) (i : Int) (shift : Int) (o : List (List FV)) : Prop :=
  (ifB (decide ((IntKind.wrap .u64 16) ≤ u1)) (((0 : Int) ≤ (IntKind.wrap .u64 (((BitVec.toNat ((BitVec.ofInt 64 u1) &&& (BitVec.ofInt 64 (IntKind.wrap .u64 ((IntKind.wrap .u64 16) - 1))))) : Nat) : Int))) ∧ (∃ c8 : UInt8, ((((ByteArray.data (ByteArray.mk #[48, 49, 50, 51, 52, 53, 54, 55, 56, 57, 97, 98, 99, 100, 101, 102, 103, 104, 105, 106, 107, 108, 109, 110, 111, 112, 113, 114, 115, 116, 117, 118, 119, 120, 121, 122])))[(Int.toNat (IntKind.wrap .u64 (((BitVec.toNat ((BitVec.ofInt 64 u1) &&& (BitVec.ofInt 64 (IntKind.wrap .u64 ((IntKind.wrap .u64 16) - 1))))) : Nat) : Int)))]? = (some c8)) ∧ (((((0 : Int) ≤ (IntKind.wrap .i64 (i - 1))) ∧ ((IntKind.wrap .i64 (i - 1)) < 65)) ∧ (65 = (List.length o))) ∧ (((Int.toNat (IntKind.wrap .i64 (i - 1))) < (List.length o)) ∧ (((0 : Int) ≤ shift) ∧ (internal_strconv_formatBits_L0 R (Int.fdiv u1 (2 ^ (min (Int.toNat shift) 64))) (IntKind.wrap .i64 (i - 1)) shift (List.set o (Int.toNat (IntKind.wrap .i64 (i - 1))) [(FV.int .u8 (((UInt8.toNat c8) : Nat) : Int))])))))))) (((0 : Int) ≤ u1) ∧ (∃ c9 : UInt8, ((((ByteArray.data (ByteArray.mk #[48, 49, 50, 51, 52, 53, 54, 55, 56, 57, 97, 98, 99, 100, 101, 102, 103, 104, 105, 106, 107, 108, 109, 110, 111, 112, 113, 114, 115, 116, 117, 118, 119, 120, 121, 122])))[(Int.toNat u1)]? = (some c9)) ∧ (((((0 : Int) ≤ (IntKind.wrap .i64 (i - 1))) ∧ ((IntKind.wrap .i64 (i - 1)) < 65)) ∧ (65 = (List.length o))) ∧ (((Int.toNat (IntKind.wrap .i64 (i - 1))) < (List.length o)) ∧ ((65 = (List.length (List.set o (Int.toNat (IntKind.wrap .i64 (i - 1))) [(FV.int .u8 (((UInt8.toNat c9) : Nat) : Int))]))) ∧ ((((0 : Int) ≤ (IntKind.wrap .i64 (i - 1))) ∧ ((IntKind.wrap .i64 (i - 1)) ≤ (((List.length (List.set o (Int.toNat (IntKind.wrap .i64 (i - 1))) [(FV.int .u8 (((UInt8.toNat c9) : Nat) : Int))])) : Nat) : Int))) ∧ (∃ ns4 : List Int, (((List.drop (Int.toNat (IntKind.wrap .i64 (i - 1))) (List.set o (Int.toNat (IntKind.wrap .i64 (i - 1))) [(FV.int .u8 (((UInt8.toNat c9) : Nat) : Int))])) = (List.map (fun n6 => [(FV.int .u8 n6)]) ns4)) ∧ (R (TV.tup [(false, [(AV.fz (FV.sl 1 ([] : List (List FV))))]), (false, [(AV.fz (FV.str (bytesOf ns4)))])]) [])))))))))))
theorem internal_strconv_formatBits_l0 {R : TV → List Ob → Prop} {u1 : Int} {i : Int} {shift : Int} {o : List (List FV)} (h : internal_strconv_formatBits_R0 R u1 i shift o) : internal_strconv_formatBits_L0 R u1 i shift o :=
  LoopAt.by_tr (by kernel_rfl) (by kernel_rfl) h
def internal_strconv_formatBits_H (R : TV → List Ob → Prop) (u : Int) : Prop :=
  (∃ b1 : Bool, ((Fn Tryz.prog 168 [(TV.one (AV.fz (FV.int .i64 16)))] [] (TV.one (AV.fz (FV.bool b1))) []) ∧ (ifB b1 (∃ n6 : Int, ((Fn Tryz.prog 169 [(TV.one (AV.fz (FV.int .u64 (IntKind.wrap .u64 16))))] [] (TV.one (AV.fz (FV.int .i64 n6))) []) ∧ (internal_strconv_formatBits_L0 R u 65 (IntKind.wrap .u64 n6) (List.replicate 65 [(FV.int .u8 0)])))) (internal_strconv_formatBits_L1 R u 65 (List.replicate 65 [(FV.int .u8 0)])))))
theorem internal_strconv_formatBits_fn (u : Int) {r : TV} {h : List Ob} (H : internal_strconv_formatBits_H (fun r' h' => r' = r ∧ h' = h) u) : Fn Tryz.prog 151 [(TV.one (AV.fz (FV.sl 1 ([] : List (List FV))))), (TV.one (AV.fz (FV.int .u64 u))), (TV.one (AV.fz (FV.int .i64 16))), (TV.one (AV.fz (FV.bool false))), (TV.one (AV.fz (FV.bool false)))] [] r h :=
  Fn.by_tr (M := (modeC [] [])) (lv := internal_strconv_formatBits_lv) (own := none) (F := Tryz.f151) (by kernel_rfl) (by kernel_rfl) (by first | decide | simp) (fun _ _ h => h) (by kernel_rfl) H
def internal_strconv_isPowerOfTwo_lv : List Nat → Keep := lvOf []
def internal_strconv_isPowerOfTwo_H (R : TV → List Ob → Prop)  : Prop :=
  (R (TV.one (AV.fz (FV.bool ((IntKind.wrap .i64 (((BitVec.toNat ((BitVec.ofInt 64 16) &&& (BitVec.ofInt 64 (IntKind.wrap .i64 (16 - 1))))) : Nat) : Int)) == 0)))) [])
theorem internal_strconv_isPowerOfTwo_fn  {r : TV} {h : List Ob} (H : internal_strconv_isPowerOfTwo_H (fun r' h' => r' = r ∧ h' = h) ) : Fn Tryz.prog 168 [(TV.one (AV.fz (FV.int .i64 16)))] [] r h :=
  Fn.by_tr (M := (modeC [] [])) (lv := internal_strconv_isPowerOfTwo_lv) (own := none) (F := Tryz.f168) (by kernel_rfl) (by kernel_rfl) (by first | decide | simp) (fun _ _ h => h) (by kernel_rfl) H
end Go.Proofs.YtejefchehdifhaaGreatDoor.Ev
end
section
set_option linter.unusedVariables false
set_option linter.unusedSimpArgs false
namespace Go.Proofs.YtejefchehdifhaaGreatDoor.Ev
open Go Go.RowKit
def deb : List Int := Lib.deBruijn64tab.map fun n => ((n : Nat) : Int)
theorem deb_mem : (9, deb.map fun i => FV.int .u8 i) ∈ tabs := by
  unfold tabs
  repeat' first | exact List.mem_cons_self | apply List.mem_cons_of_mem
theorem deb_at : ∀ j : Fin 64, deb[j.val]? = some ((Lib.deBruijn64tab.getD j.val 0 : Nat) : Int) := by decide
theorem TrailingZeros_fn : Fn Tryz.prog 169 [fzI .u64 16] [] (fzI .i64 4) [] :=
  Fn.of_below [.int .u64 16] rfl rfl fun w hg => by
    obtain ⟨t, z, h2⟩ := tabAt_ints (hg _ deb_mem)
    refine (Tryz.bits_TrailingZeros 16 (by omega) w (fun _ j hj => ?_)).mono ?_
    · have hl : Lib.deBruijn64tab.length = 64 := by decide
      have h3 := deb_at ⟨j, by omega⟩
      simp only at h3
      unfold World.cell?
      simp only [h2]
      simp [h3]
    · rintro e w' ⟨rfl, rfl⟩
      exact ⟨rfl, Below.refl _ _⟩
theorem pow16_ok : Fn Tryz.prog 168 [fzI .i64 16] [] (.one (.fz (.bool true))) [] := by
  refine internal_strconv_isPowerOfTwo_fn ?_
  unfold internal_strconv_isPowerOfTwo_H
  exact ⟨rfl, rfl⟩
def digArr : Array UInt8 := #[48, 49, 50, 51, 52, 53, 54, 55, 56, 57, 97, 98, 99, 100, 101, 102, 103, 104, 105, 106, 107, 108, 109, 110, 111, 112, 113, 114, 115, 116, 117, 118, 119, 120, 121, 122]
theorem dig_tab : ∀ n : Fin 16, (digArr[n.val]?).map (fun c => ((c.toNat : Nat) : Int)) = some (hxd (n.val : Int)) := by decide
theorem dig_at {n : Int} (h0 : 0 ≤ n) (h1 : n < 16) {Q : UInt8 → Prop} (hQ : ∀ c : UInt8, ((c.toNat : Nat) : Int) = hxd n → Q c) : ∃ c : UInt8, (ByteArray.data (ByteArray.mk #[48, 49, 50, 51, 52, 53, 54, 55, 56, 57, 97, 98, 99, 100, 101, 102, 103, 104, 105, 106, 107, 108, 109, 110, 111, 112, 113, 114, 115, 116, 117, 118, 119, 120, 121, 122]))[Int.toNat n]? = some c ∧ Q c := by
  have h := dig_tab ⟨n.toNat, by omega⟩
  show ∃ c : UInt8, digArr[Int.toNat n]? = some c ∧ Q c
  simp only at h
  cases hd : digArr[Int.toNat n]? with
  | none => rw [hd] at h; exact absurd h (by simp)
  | some c =>
    rw [hd] at h
    refine ⟨c, rfl, hQ c ?_⟩
    simpa [Int.toNat_of_nonneg h0] using h
theorem low4 : ∀ u : Fin 256, BitVec.toNat ((BitVec.ofInt 64 (u.val : Int)) &&& (BitVec.ofInt 64 15)) = u.val % 16 := by decide +kernel
theorem fmt_last (R : TV → List Ob → Prop) (u i : Int) (Z : List Int) (h0 : 0 ≤ u) (h1 : u < 16) (hi : 1 ≤ i) (hi1 : i ≤ 65) (hZ : Z.length = 65)
    (hR : R (.tup [(false, [.fz (.sl 1 [])]), (false, [.fz (.str (bytesOf (hxd u :: Z.drop i.toNat)))])]) []) : internal_strconv_formatBits_L0 R u i 4 (ints .u8 Z) := by
  refine internal_strconv_formatBits_l0 ?_
  unfold internal_strconv_formatBits_R0
  rw [show IntKind.wrap .u64 16 = 16 from rfl, show decide ((16 : Int) ≤ u) = false by simp; omega]
  simp only [ifB]
  refine ⟨h0, dig_at h0 h1 fun c hc => ?_⟩
  rw [hc, w64 (n := i - 1) (by omega) (by omega), ints_set, ints_drop, ints_len, ints_len, List.length_set, hZ]
  refine ⟨⟨⟨by omega, by omega⟩, rfl⟩, by omega, rfl, ⟨by omega, by omega⟩, _, rfl, ?_⟩
  have : (Z.set (i - 1).toNat (hxd u)).drop (i - 1).toNat = hxd u :: Z.drop i.toNat := by
    rw [List.drop_eq_getElem_cons (by rw [List.length_set]; omega), List.getElem_set_self, show (i - 1).toNat + 1 = i.toNat by omega, List.drop_set_of_lt (by omega)]
  rw [this]
  exact hR
theorem formatBits_ok (u : Int) (h0 : 0 ≤ u) (h1 : u < 256) : Fn Tryz.prog 151 [.one (.fz (.sl 1 [])), fzI .u64 u, fzI .i64 16, .one (.fz (.bool false)), .one (.fz (.bool false))] [] (.tup [(false, [.fz (.sl 1 [])]), (false, [.fz (.str (bytesOf (hexT u)))])]) [] := by
  refine internal_strconv_formatBits_fn _ ?_
  obtain ⟨R, hR, hRe⟩ := exR (.tup [(false, [.fz (.sl 1 [])]), (false, [.fz (.str (bytesOf (hexT u)))])]); rw [hRe]; clear hRe
  unfold internal_strconv_formatBits_H
  simp only [ifB]
  refine ⟨true, pow16_ok, ?_⟩
  simp only
  refine ⟨4, TrailingZeros_fn, ?_⟩
  rw [show IntKind.wrap .u64 4 = 4 from rfl, ints_rep]
  unfold hexT at hR
  by_cases c : u < 16
  · rw [if_pos c] at hR
    exact fmt_last R u 65 _ h0 c (by omega) (by omega) (by simp) (by simpa using hR)
  · rw [if_neg c] at hR
    refine internal_strconv_formatBits_l0 ?_
    unfold internal_strconv_formatBits_R0
    rw [show IntKind.wrap .u64 16 = 16 from rfl, show decide ((16 : Int) ≤ u) = true by simp; omega]
    simp only [ifB]
    have hl := low4 ⟨u.toNat, by omega⟩
    simp only at hl
    rw [show ((u.toNat : Nat) : Int) = u by omega] at hl
    have hl2 : ((u.toNat % 16 : Nat) : Int) = u % 16 := by omega
    rw [show IntKind.wrap .u64 (16 - 1) = 15 from rfl, hl, hl2, wu64 (n := u % 16) (by omega) (by omega), w64 (n := 65 - 1) (by omega) (by omega)]
    refine ⟨by omega, dig_at (by omega) (by omega) fun d hd => ?_⟩
    rw [hd, ints_set, ints_len]
    refine ⟨⟨⟨by omega, by omega⟩, by simp⟩, by simp, by omega, ?_⟩
    have e : Int.fdiv u (2 ^ (min (Int.toNat 4) 64)) = u / 16 := by
      rw [show (2 : Int) ^ (min (Int.toNat 4) 64) = 16 from rfl, Int.fdiv_eq_ediv_of_nonneg _ (by omega)]
    rw [e]
    refine fmt_last R (u / 16) 64 _ (by omega) (by omega) (by omega) (by omega) (by simp) ?_
    have e2 : ((List.replicate 65 (0 : Int)).set (Int.toNat (65 - 1)) (hxd (u % 16))).drop (Int.toNat 64) = [hxd (u % 16)] := rfl
    rw [e2]
    exact hR
theorem FormatIntI_ok (c : Int) (h0 : 0 ≤ c) (h1 : c < 256) : Fn Tryz.prog 128 [fzI .i64 c, fzI .i64 16] [] (.one (.fz (.str (bytesOf (hexT c))))) [] := by
  refine internal_strconv_FormatInt_fn _ ?_
  unfold internal_strconv_FormatInt_H
  rw [wu64 h0 (by omega), show decide (c < 0) = false by simp; omega]
  exact ⟨_, _, formatBits_ok c h0 h1, rfl, rfl⟩
theorem FormatInt_ok (c : Int) (h0 : 0 ≤ c) (h1 : c < 256) : Fn Tryz.prog 100 [fzI .i64 c, fzI .i64 16] [] (.one (.fz (.str (bytesOf (hexT c))))) [] := by
  refine strconv_FormatInt_fn _ ?_
  unfold strconv_FormatInt_H
  exact ⟨_, FormatIntI_ok c h0 h1, rfl, rfl⟩
end Go.Proofs.YtejefchehdifhaaGreatDoor.Ev
end
section
set_option linter.unusedVariables false
set_option maxRecDepth 100000
namespace Go.Proofs.YtejefchehdifhaaGreatDoor.Ev
open Go
def WriteByteFP_lv : List Nat → Keep := lvOf []
def WriteByteFP_H (R : TV → List Ob → Prop) (c : Int) : Prop :=
  ((Fn Tryz.prog 98 [(TV.one (AV.ptr 0 0 0 0))] [(Ob.g 90 [(AV.fz FV.nilp), (AV.nsl 1)])] (TV.tup []) [(Ob.g 90 [(AV.ptr 0 0 0 0), (AV.nsl 1)])]) ∧ (((((List.length ([] : List (List FV))) + (List.length [[(FV.int .u8 c)]])) * 1) ≤ 220000000000000) ∧ (R (TV.one (AV.fz (FV.ifc false))) [(Ob.g 90 [(AV.ptr 0 0 0 0), (AV.ofl 1 1)]), (Ob.f 5 1 (([] : List (List FV)) ++ [[(FV.int .u8 c)]]))])))
theorem WriteByteFP_fn (c : Int) {r : TV} {h : List Ob} (H : WriteByteFP_H (fun r' h' => r' = r ∧ Wk h' h) c) : Fn Tryz.prog 63 [(TV.one (AV.ptr 0 0 0 0)), (TV.one (AV.fz (FV.int .u8 c)))] [(Ob.g 90 [(AV.fz FV.nilp), (AV.nsl 1)])] r h :=
  Fn.by_trW (M := (modeOf [] [(98, [(Sig.mk 1 [] [(OT.g 90 [(AT.a (AV.ptr 0 0 0 0)), (AT.a (AV.nsl 1))])] 0)])])) (lv := WriteByteFP_lv) (own := (some 1)) (F := Tryz.f63) (by kernel_rfl) (by kernel_rfl) (by first | decide | simp) (fun _ _ h => h) (by kernel_rfl) H
def WriteByteUP_lv : List Nat → Keep := lvOf []
def WriteByteUP_H (R : TV → List Ob → Prop) (c : Int) (o : List (List FV)) : Prop :=
  (∃ es1 : List (List FV), ((Fn Tryz.prog 98 [(TV.one (AV.ptr 0 0 0 0))] [(Ob.g 90 [(AV.ptr 0 0 0 0), (AV.ofl 1 1)]), (Ob.f 5 1 o)] (TV.tup []) [(Ob.g 90 [(AV.ptr 0 0 0 0), (AV.ofl 1 1)]), (Ob.f 5 1 es1)]) ∧ (((((List.length es1) + (List.length [[(FV.int .u8 c)]])) * 1) ≤ 220000000000000) ∧ (R (TV.one (AV.fz (FV.ifc false))) [(Ob.g 90 [(AV.ptr 0 0 0 0), (AV.ofl 1 2)]), Ob.no, (Ob.f 5 1 (es1 ++ [[(FV.int .u8 c)]]))]))))
theorem WriteByteUP_fn (c : Int) (o : List (List FV)) {r : TV} {h : List Ob} (H : WriteByteUP_H (fun r' h' => r' = r ∧ Wk h' h) c o) : Fn Tryz.prog 63 [(TV.one (AV.ptr 0 0 0 0)), (TV.one (AV.fz (FV.int .u8 c)))] [(Ob.g 90 [(AV.ptr 0 0 0 0), (AV.ofl 1 1)]), (Ob.f 5 1 o)] r h :=
  Fn.by_trW (M := (modeOf [] [(98, [(Sig.mk 2 [] [(OT.g 90 [(AT.a (AV.ptr 0 0 0 0)), (AT.a (AV.ofl 1 1))]), (OT.f 5 1)] 0)])])) (lv := WriteByteUP_lv) (own := (some 2)) (F := Tryz.f63) (by kernel_rfl) (by kernel_rfl) (by first | decide | simp) (fun _ _ h => h) (by kernel_rfl) H
def WriteStringFP_lv : List Nat → Keep := lvOf []
def WriteStringFP_H (R : TV → List Ob → Prop) (s : ByteArray) : Prop :=
  ((Fn Tryz.prog 98 [(TV.one (AV.ptr 0 0 0 0))] [(Ob.g 90 [(AV.fz FV.nilp), (AV.nsl 1)])] (TV.tup []) [(Ob.g 90 [(AV.ptr 0 0 0 0), (AV.nsl 1)])]) ∧ (((((List.length ([] : List (List FV))) + (List.length (List.map (fun b5 => [(FV.int .u8 (((UInt8.toNat b5) : Nat) : Int))]) (Array.toList (ByteArray.data s))))) * 1) ≤ 220000000000000) ∧ (R (TV.tup [(false, [(AV.fz (FV.int .i64 (((ByteArray.size s) : Nat) : Int)))]), (false, [(AV.fz (FV.ifc false))])]) [(Ob.g 90 [(AV.ptr 0 0 0 0), (AV.ofl 1 1)]), (Ob.f 5 1 (([] : List (List FV)) ++ (List.map (fun b7 => [(FV.int .u8 (((UInt8.toNat b7) : Nat) : Int))]) (Array.toList (ByteArray.data s)))))])))
theorem WriteStringFP_fn (s : ByteArray) {r : TV} {h : List Ob} (H : WriteStringFP_H (fun r' h' => r' = r ∧ Wk h' h) s) : Fn Tryz.prog 65 [(TV.one (AV.ptr 0 0 0 0)), (TV.one (AV.fz (FV.str s)))] [(Ob.g 90 [(AV.fz FV.nilp), (AV.nsl 1)])] r h :=
  Fn.by_trW (M := (modeOf [] [(98, [(Sig.mk 1 [] [(OT.g 90 [(AT.a (AV.ptr 0 0 0 0)), (AT.a (AV.nsl 1))])] 0)])])) (lv := WriteStringFP_lv) (own := (some 1)) (F := Tryz.f65) (by kernel_rfl) (by kernel_rfl) (by first | decide | simp) (fun _ _ h => h) (by kernel_rfl) H
def WriteStringUP_lv : List Nat → Keep := lvOf []
def WriteStringUP_H (R : TV → List Ob → Prop) (s : ByteArray) (o : List (List FV)) : Prop :=
  (∃ es1 : List (List FV), ((Fn Tryz.prog 98 [(TV.one (AV.ptr 0 0 0 0))] [(Ob.g 90 [(AV.ptr 0 0 0 0), (AV.ofl 1 1)]), (Ob.f 5 1 o)] (TV.tup []) [(Ob.g 90 [(AV.ptr 0 0 0 0), (AV.ofl 1 1)]), (Ob.f 5 1 es1)]) ∧ (((((List.length es1) + (List.length (List.map (fun b5 => [(FV.int .u8 (((UInt8.toNat b5) : Nat) : Int))]) (Array.toList (ByteArray.data s))))) * 1) ≤ 220000000000000) ∧ (R (TV.tup [(false, [(AV.fz (FV.int .i64 (((ByteArray.size s) : Nat) : Int)))]), (false, [(AV.fz (FV.ifc false))])]) [(Ob.g 90 [(AV.ptr 0 0 0 0), (AV.ofl 1 2)]), Ob.no, (Ob.f 5 1 (es1 ++ (List.map (fun b7 => [(FV.int .u8 (((UInt8.toNat b7) : Nat) : Int))]) (Array.toList (ByteArray.data s)))))]))))
theorem WriteStringUP_fn (s : ByteArray) (o : List (List FV)) {r : TV} {h : List Ob} (H : WriteStringUP_H (fun r' h' => r' = r ∧ Wk h' h) s o) : Fn Tryz.prog 65 [(TV.one (AV.ptr 0 0 0 0)), (TV.one (AV.fz (FV.str s)))] [(Ob.g 90 [(AV.ptr 0 0 0 0), (AV.ofl 1 1)]), (Ob.f 5 1 o)] r h :=
  Fn.by_trW (M := (modeOf [] [(98, [(Sig.mk 2 [] [(OT.g 90 [(AT.a (AV.ptr 0 0 0 0)), (AT.a (AV.ofl 1 1))]), (OT.f 5 1)] 0)])])) (lv := WriteStringUP_lv) (own := (some 2)) (F := Tryz.f65) (by kernel_rfl) (by kernel_rfl) (by first | decide | simp) (fun _ _ h => h) (by kernel_rfl) H
end Go.Proofs.YtejefchehdifhaaGreatDoor.Ev
end
section
set_option linter.unusedVariables false
set_option linter.unusedSimpArgs false
namespace Go.Proofs.YtejefchehdifhaaGreatDoor.Ev
open Go
theorem liesPrinter : liesAt Tryz.prog Tryz.prog.depth 90 (2 / Tryz.prog.cellsOf 90) 0 88 1 = true := by kernel_rfl
abbrev pF : List Ob := [.g 90 [.fz .nilp, .nsl 1]]
abbrev pU (l : List Int) : List Ob := [.g 90 [.ptr 0 0 0 0, .ofl 1 1], .f 5 1 (ints .u8 l)]
abbrev pV (l : List Int) : List Ob := [.g 90 [.ptr 0 0 0 0, .ofl 1 2], .no, .f 5 1 (ints .u8 l)]
theorem writeByteFP_ok (c : Int) : Fn Tryz.prog 63 [p0, fzI .u8 c] pF (.one (.fz (.ifc false))) (pU [c]) := by
  refine WriteByteFP_fn _ ?_
  unfold WriteByteFP_H
  simp only [ints_len, ints_app, ints_snoc, ints_take, ints_drop, ints_set, ints_rep, ints_one, ex_rd, dec_t, dec_f, beq_t, beq_f, bne_t, bne_f, not_t, not_f, List.length_set, List.length_append, List.length_cons, List.length_nil, List.length_take, List.length_drop, List.length_replicate, Int.toNat_natCast, List.nil_append, Bool.not_true, Bool.not_false, Wk_nil, Wk_cons, wk1_same, wk1_f, and_true, true_and, Bool.false_eq_true, Bool.true_eq_false, false_implies, forall_const]
  exact ⟨copyCheck_fn_fresh _ liesPrinter _ _, by omega⟩
theorem writeByteUP_ok (c : Int) (l : List Int) (hl : l.length ≤ 100000000) : Fn Tryz.prog 63 [p0, fzI .u8 c] (pU l) (.one (.fz (.ifc false))) (pV (l ++ [c])) := by
  refine WriteByteUP_fn _ _ ?_
  unfold WriteByteUP_H
  refine ⟨_, copyCheck_fn_used _ _ _, ?_⟩
  simp only [ints_len, ints_app, ints_snoc, ints_take, ints_drop, ints_set, ints_rep, ints_one, ex_rd, dec_t, dec_f, beq_t, beq_f, bne_t, bne_f, not_t, not_f, List.length_set, List.length_append, List.length_cons, List.length_nil, List.length_take, List.length_drop, List.length_replicate, Int.toNat_natCast, List.nil_append, Bool.not_true, Bool.not_false, Wk_nil, Wk_cons, wk1_same, wk1_f, and_true, true_and, Bool.false_eq_true, Bool.true_eq_false, false_implies, forall_const]
  omega
theorem writeStringFP_ok (s : ByteArray) (hs : (bs s).length ≤ 100000000) : Fn Tryz.prog 65 [p0, .one (.fz (.str s))] pF (wsR (bs s).length) (pU (bs s)) := by
  refine WriteStringFP_fn _ ?_
  unfold WriteStringFP_H
  simp only [map_bs, size_bs]
  simp only [ints_len, ints_app, ints_snoc, ints_take, ints_drop, ints_set, ints_rep, ints_one, ex_rd, dec_t, dec_f, beq_t, beq_f, bne_t, bne_f, not_t, not_f, List.length_set, List.length_append, List.length_cons, List.length_nil, List.length_take, List.length_drop, List.length_replicate, Int.toNat_natCast, List.nil_append, Bool.not_true, Bool.not_false, Wk_nil, Wk_cons, wk1_same, wk1_f, and_true, true_and, Bool.false_eq_true, Bool.true_eq_false, false_implies, forall_const]
  exact ⟨copyCheck_fn_fresh _ liesPrinter _ _, by omega⟩
theorem writeStringUP_ok (s : ByteArray) (l : List Int) (hs : (bs s).length ≤ 100000000) (hl : l.length ≤ 100000000) : Fn Tryz.prog 65 [p0, .one (.fz (.str s))] (pU l) (wsR (bs s).length) (pV (l ++ bs s)) := by
  refine WriteStringUP_fn _ _ ?_
  unfold WriteStringUP_H
  refine ⟨_, copyCheck_fn_used _ _ _, ?_⟩
  simp only [map_bs, size_bs]
  simp only [ints_len, ints_app, ints_snoc, ints_take, ints_drop, ints_set, ints_rep, ints_one, ex_rd, dec_t, dec_f, beq_t, beq_f, bne_t, bne_f, not_t, not_f, List.length_set, List.length_append, List.length_cons, List.length_nil, List.length_take, List.length_drop, List.length_replicate, Int.toNat_natCast, List.nil_append, Bool.not_true, Bool.not_false, Wk_nil, Wk_cons, wk1_same, wk1_f, and_true, true_and, Bool.false_eq_true, Bool.true_eq_false, false_implies, forall_const]
  omega
theorem stringUP_ok (l : List Int) (hne : l ≠ []) (hb : Bytes l) (hl : l.length ≤ 100000000) :
    Fn Tryz.prog 59 [p0] (pU l) (.one (.fz (.str (bytesOf l)))) [.g 90 [.ptr 0 0 0 0, .ofl 1 1], .z 1 (ints .u8 l)] :=
  String_fn _ _ l hne (fun n hn => hb n hn) (by omega)
end Go.Proofs.YtejefchehdifhaaGreatDoor.Ev
end
section
set_option linter.unusedVariables false
set_option maxRecDepth 100000
namespace Go.Proofs.YtejefchehdifhaaGreatDoor.Ev
open Go
def utf_Name_lv : List Nat → Keep := lvOf [([0, 1, 0, 1, 1], ⟨1537, 0, [], false, false⟩)]
def utf_Name_S0 (c : Int) (i : Int) : St := (St.mk [(TV.one (AV.fz (FV.int .i64 c))), TV.und, TV.und, TV.und, TV.und, TV.und, TV.und, TV.und, TV.und, (TV.agg [(AV.fz (FV.int .i64 32)), (AV.fz (FV.str (ByteArray.mk #[115, 112, 97, 99, 101]))), (AV.fz (FV.int .i64 10)), (AV.fz (FV.str (ByteArray.mk #[110, 101, 119, 108, 105, 110, 101]))), (AV.fz (FV.int .i64 9)), (AV.fz (FV.str (ByteArray.mk #[116, 97, 98]))), (AV.fz (FV.int .i64 13)), (AV.fz (FV.str (ByteArray.mk #[114, 101, 116, 117, 114, 110]))), (AV.fz (FV.int .i64 0)), (AV.fz (FV.str (ByteArray.mk #[110, 117, 108, 108]))), (AV.fz (FV.int .i64 127)), (AV.fz (FV.str (ByteArray.mk #[100, 101, 108, 101, 116, 101])))]), (TV.one (AV.fz (FV.int .i64 i))), TV.und, TV.und, TV.und, TV.und, TV.und, TV.und, TV.und, TV.und, TV.und, TV.und, TV.und, TV.und, TV.und, TV.und, TV.und, TV.und, TV.und] [])
def utf_Name_L0 (R : TV → List Ob → Prop) (c : Int) (i : Int) : Prop := LoopAt Tryz.prog (modeOf [] []) utf_Name_lv Tryz.f93 none R [1, 1, 0, 1, 0] (utf_Name_S0 c i)
def utf_Name_R0 (R : TV → List Ob → Prop) (c : Int) (i : Int) : Prop :=
  ((((decide (i < 6)) = true) → ((((0 : Int) ≤ i) ∧ (i < 6)) ∧ (∃ n2 : Int, (∃ s4 : ByteArray, ((cutT [(AV.fz (FV.int .i64 32)), (AV.fz (FV.str (ByteArray.mk #[115, 112, 97, 99, 101]))), (AV.fz (FV.int .i64 10)), (AV.fz (FV.str (ByteArray.mk #[110, 101, 119, 108, 105, 110, 101]))), (AV.fz (FV.int .i64 9)), (AV.fz (FV.str (ByteArray.mk #[116, 97, 98]))), (AV.fz (FV.int .i64 13)), (AV.fz (FV.str (ByteArray.mk #[114, 101, 116, 117, 114, 110]))), (AV.fz (FV.int .i64 0)), (AV.fz (FV.str (ByteArray.mk #[110, 117, 108, 108]))), (AV.fz (FV.int .i64 127)), (AV.fz (FV.str (ByteArray.mk #[100, 101, 108, 101, 116, 101])))] ((Int.toNat i) * 2) 2 [(FV.int .i64 n2), (FV.str s4)]) ∧ ((((n2 == c) = true) → (R (TV.tup [(false, [(AV.fz (FV.str s4))]), (false, [(AV.fz (FV.int .i64 0))])]) [])) ∧ (((n2 == c) = false) → (utf_Name_L0 R c (IntKind.wrap .i64 (i + 1)))))))))) ∧ (((decide (i < 6)) = false) → ((((decide (c < 32)) = true) → (∃ s5 : ByteArray, ((Fn Tryz.prog 100 [(TV.one (AV.fz (FV.int .i64 c))), (TV.one (AV.fz (FV.int .i64 16)))] [] (TV.one (AV.fz (FV.str s5))) []) ∧ ((((ByteArray.size (ByteArray.mk #[120])) + (ByteArray.size s5)) ≤ 9223372036854775807) ∧ (R (TV.tup [(false, [(AV.fz (FV.str ((ByteArray.mk #[120]) ++ s5)))]), (false, [(AV.fz (FV.int .i64 0))])]) []))))) ∧ (((decide (c < 32)) = false) → (R (TV.tup [(false, [(AV.fz (FV.str (Utf8.encode (IntKind.wrap .i32 c))))]), (false, [(AV.fz (FV.int .i64 0))])]) [])))))
theorem utf_Name_l0 {R : TV → List Ob → Prop} {c : Int} {i : Int} (h : utf_Name_R0 R c i) : utf_Name_L0 R c i :=
  LoopAt.by_tr (by kernel_rfl) (by kernel_rfl) h
def utf_Name_H (R : TV → List Ob → Prop) (c : Int) : Prop :=
  (∃ b1 : Bool, ((Fn Tryz.prog 33 [(TV.one (AV.fz (FV.int .i64 c)))] [] (TV.one (AV.fz (FV.bool b1))) []) ∧ ((((Bool.not b1) = true) → (R (TV.tup [(false, [(AV.fz (FV.str (ByteArray.mk #[])))]), (false, [(AV.fz (FV.int .i64 1))])]) [])) ∧ (((Bool.not b1) = false) → (utf_Name_L0 R c 0)))))
theorem utf_Name_fn (c : Int) {r : TV} {h : List Ob} (H : utf_Name_H (fun r' h' => r' = r ∧ h' = h) c) : Fn Tryz.prog 93 [(TV.one (AV.fz (FV.int .i64 c)))] [] r h :=
  Fn.by_tr (M := (modeOf [] [])) (lv := utf_Name_lv) (own := none) (F := Tryz.f93) (by kernel_rfl) (by kernel_rfl) (by first | decide | simp) (fun _ _ h => h) (by kernel_rfl) H
def print_escape_lv : List Nat → Keep := lvOf []
def print_escape_H (R : TV → List Ob → Prop) (r_ : Int) : Prop :=
  ((((r_ == 92) = true) → ((((ByteArray.size (ByteArray.mk #[92])) + (ByteArray.size (Utf8.encode r_))) ≤ 9223372036854775807) ∧ (R (TV.one (AV.fz (FV.str ((ByteArray.mk #[92]) ++ (Utf8.encode r_))))) []))) ∧ (((r_ == 92) = false) → ((((r_ == 34) = true) → ((((ByteArray.size (ByteArray.mk #[92])) + (ByteArray.size (Utf8.encode r_))) ≤ 9223372036854775807) ∧ (R (TV.one (AV.fz (FV.str ((ByteArray.mk #[92]) ++ (Utf8.encode r_))))) []))) ∧ (((r_ == 34) = false) → ((((r_ == 10) = true) → (R (TV.one (AV.fz (FV.str (ByteArray.mk #[92, 110])))) [])) ∧ (((r_ == 10) = false) → ((((r_ == 9) = true) → (R (TV.one (AV.fz (FV.str (ByteArray.mk #[92, 116])))) [])) ∧ (((r_ == 9) = false) → ((((r_ == 13) = true) → (R (TV.one (AV.fz (FV.str (ByteArray.mk #[92, 114])))) [])) ∧ (((r_ == 13) = false) → ((((decide (r_ < 32)) = true) → (∃ s2 : ByteArray, ((Fn Tryz.prog 100 [(TV.one (AV.fz (FV.int .i64 (IntKind.wrap .i64 r_)))), (TV.one (AV.fz (FV.int .i64 16)))] [] (TV.one (AV.fz (FV.str s2))) []) ∧ ((((ByteArray.size (ByteArray.mk #[92, 120])) + (ByteArray.size s2)) ≤ 9223372036854775807) ∧ ((((ByteArray.size ((ByteArray.mk #[92, 120]) ++ s2)) + (ByteArray.size (ByteArray.mk #[59]))) ≤ 9223372036854775807) ∧ (R (TV.one (AV.fz (FV.str (((ByteArray.mk #[92, 120]) ++ s2) ++ (ByteArray.mk #[59]))))) [])))))) ∧ (((decide (r_ < 32)) = false) → ((((r_ == 127) = true) → (∃ s3 : ByteArray, ((Fn Tryz.prog 100 [(TV.one (AV.fz (FV.int .i64 (IntKind.wrap .i64 r_)))), (TV.one (AV.fz (FV.int .i64 16)))] [] (TV.one (AV.fz (FV.str s3))) []) ∧ ((((ByteArray.size (ByteArray.mk #[92, 120])) + (ByteArray.size s3)) ≤ 9223372036854775807) ∧ ((((ByteArray.size ((ByteArray.mk #[92, 120]) ++ s3)) + (ByteArray.size (ByteArray.mk #[59]))) ≤ 9223372036854775807) ∧ (R (TV.one (AV.fz (FV.str (((ByteArray.mk #[92, 120]) ++ s3) ++ (ByteArray.mk #[59]))))) [])))))) ∧ (((r_ == 127) = false) → (R (TV.one (AV.fz (FV.str (Utf8.encode r_)))) [])))))))))))))))
theorem print_escape_fn (r_ : Int) {r : TV} {h : List Ob} (H : print_escape_H (fun r' h' => r' = r ∧ h' = h) r_) : Fn Tryz.prog 66 [(TV.one (AV.fz (FV.int .i32 r_)))] [] r h :=
  Fn.by_tr (M := (modeOf [] [])) (lv := print_escape_lv) (own := none) (F := Tryz.f66) (by kernel_rfl) (by kernel_rfl) (by first | decide | simp) (fun _ _ h => h) (by kernel_rfl) H
def print_Quoted_lv : List Nat → Keep := lvOf [([0, 0, 1, 1, 1], ⟨9, 0, [], false, false⟩)]
def print_Quoted_S0 (s4 : ByteArray) (es : List (List FV)) : St := (St.mk [(TV.one (AV.fz (FV.str s4))), TV.und, TV.und, (TV.one (AV.ptr 0 0 0 0)), TV.und, TV.und, TV.und, TV.und, TV.und, TV.und, TV.und, TV.und, TV.und, TV.und, TV.und, TV.und, TV.und, TV.und, TV.und, TV.und, TV.und, TV.und, TV.und, TV.und, TV.und, TV.und, TV.und, TV.und, TV.und, TV.und, TV.und, TV.und, TV.und] [(Ob.g 88 [(AV.ptr 0 0 0 0), (AV.ofl 1 1)]), (Ob.f 5 1 es)])
def print_Quoted_L0 (R : TV → List Ob → Prop) (s4 : ByteArray) (es : List (List FV)) : Prop := LoopAt Tryz.prog (modeOf [] [(63, [(Sig.mk 1 [(false, [(AT.a (AV.fz (FV.ifc false)))])] [(OT.g 88 [(AT.a (AV.ptr 0 0 0 0)), (AT.a (AV.ofl 1 1))]), (OT.f 5 1)] 0), (Sig.mk 2 [(false, [(AT.a (AV.fz (FV.ifc false)))])] [(OT.g 88 [(AT.a (AV.ptr 0 0 0 0)), (AT.a (AV.ofl 1 2))]), OT.no, (OT.f 5 1)] 0)]), (65, [(Sig.mk 1 [(false, [(AT.k (CK.int .i64))]), (false, [(AT.a (AV.fz (FV.ifc false)))])] [(OT.g 88 [(AT.a (AV.ptr 0 0 0 0)), (AT.a (AV.ofl 1 1))]), (OT.f 5 1)] 0), (Sig.mk 2 [(false, [(AT.k (CK.int .i64))]), (false, [(AT.a (AV.fz (FV.ifc false)))])] [(OT.g 88 [(AT.a (AV.ptr 0 0 0 0)), (AT.a (AV.ofl 1 2))]), OT.no, (OT.f 5 1)] 0)]), (59, [(Sig.mk 2 [(false, [(AT.k CK.str)])] [(OT.g 88 [(AT.a (AV.ptr 0 0 0 0)), (AT.a (AV.ofl 1 1))]), (OT.z 1)] 0)])]) print_Quoted_lv Tryz.f24 none R [1, 1, 1, 0, 0] (print_Quoted_S0 s4 es)
def print_Quoted_R0 (R : TV → List Ob → Prop) (s4 : ByteArray) (es : List (List FV)) : Prop :=
  ((((decide ((0 : Int) < (((ByteArray.size s4) : Nat) : Int))) = true) → (∃ n10 : Int, (∃ n11 : Int, ((Fn Tryz.prog 64 [(TV.one (AV.fz (FV.str s4)))] [] (TV.tup [(false, [(AV.fz (FV.int .i32 n10))]), (false, [(AV.fz (FV.int .i64 n11))])]) []) ∧ ((((n10 == 65533) = true) → ((((decide (n11 < 2)) = true) → ((((0 : Int) ≤ n11) ∧ (n11 ≤ (((ByteArray.size s4) : Nat) : Int))) ∧ (∃ es11 : List (List FV), (∃ n12 : Int, ((Fn Tryz.prog 65 [(TV.one (AV.ptr 0 0 0 0)), (TV.one (AV.fz (FV.str (ByteArray.extract s4 0 (Int.toNat n11)))))] [(Ob.g 88 [(AV.ptr 0 0 0 0), (AV.ofl 1 1)]), (Ob.f 5 1 es)] (TV.tup [(false, [(AV.fz (FV.int .i64 n12))]), (false, [(AV.fz (FV.ifc false))])]) [(Ob.g 88 [(AV.ptr 0 0 0 0), (AV.ofl 1 2)]), Ob.no, (Ob.f 5 1 es11)]) ∧ ((((0 : Int) ≤ n11) ∧ (n11 ≤ (((ByteArray.size s4) : Nat) : Int))) ∧ (print_Quoted_L0 R (ByteArray.extract s4 (Int.toNat n11) (ByteArray.size s4)) es11))))))) ∧ (((decide (n11 < 2)) = false) → (∃ s8 : ByteArray, ((Fn Tryz.prog 66 [(TV.one (AV.fz (FV.int .i32 n10)))] [] (TV.one (AV.fz (FV.str s8))) []) ∧ (∃ es12 : List (List FV), (∃ n13 : Int, ((Fn Tryz.prog 65 [(TV.one (AV.ptr 0 0 0 0)), (TV.one (AV.fz (FV.str s8)))] [(Ob.g 88 [(AV.ptr 0 0 0 0), (AV.ofl 1 1)]), (Ob.f 5 1 es)] (TV.tup [(false, [(AV.fz (FV.int .i64 n13))]), (false, [(AV.fz (FV.ifc false))])]) [(Ob.g 88 [(AV.ptr 0 0 0 0), (AV.ofl 1 2)]), Ob.no, (Ob.f 5 1 es12)]) ∧ ((((0 : Int) ≤ n11) ∧ (n11 ≤ (((ByteArray.size s4) : Nat) : Int))) ∧ (print_Quoted_L0 R (ByteArray.extract s4 (Int.toNat n11) (ByteArray.size s4)) es12)))))))))) ∧ (((n10 == 65533) = false) → (∃ s9 : ByteArray, ((Fn Tryz.prog 66 [(TV.one (AV.fz (FV.int .i32 n10)))] [] (TV.one (AV.fz (FV.str s9))) []) ∧ (∃ es13 : List (List FV), (∃ n14 : Int, ((Fn Tryz.prog 65 [(TV.one (AV.ptr 0 0 0 0)), (TV.one (AV.fz (FV.str s9)))] [(Ob.g 88 [(AV.ptr 0 0 0 0), (AV.ofl 1 1)]), (Ob.f 5 1 es)] (TV.tup [(false, [(AV.fz (FV.int .i64 n14))]), (false, [(AV.fz (FV.ifc false))])]) [(Ob.g 88 [(AV.ptr 0 0 0 0), (AV.ofl 1 2)]), Ob.no, (Ob.f 5 1 es13)]) ∧ ((((0 : Int) ≤ n11) ∧ (n11 ≤ (((ByteArray.size s4) : Nat) : Int))) ∧ (print_Quoted_L0 R (ByteArray.extract s4 (Int.toNat n11) (ByteArray.size s4)) es13))))))))))))) ∧ (((decide ((0 : Int) < (((ByteArray.size s4) : Nat) : Int))) = false) → (∃ es14 : List (List FV), ((Fn Tryz.prog 63 [(TV.one (AV.ptr 0 0 0 0)), (TV.one (AV.fz (FV.int .u8 34)))] [(Ob.g 88 [(AV.ptr 0 0 0 0), (AV.ofl 1 1)]), (Ob.f 5 1 es)] (TV.one (AV.fz (FV.ifc false))) [(Ob.g 88 [(AV.ptr 0 0 0 0), (AV.ofl 1 2)]), Ob.no, (Ob.f 5 1 es14)]) ∧ (∃ es15 : List (List FV), (∃ s10 : ByteArray, ((Fn Tryz.prog 59 [(TV.one (AV.ptr 0 0 0 0))] [(Ob.g 88 [(AV.ptr 0 0 0 0), (AV.ofl 1 1)]), (Ob.f 5 1 es14)] (TV.one (AV.fz (FV.str s10))) [(Ob.g 88 [(AV.ptr 0 0 0 0), (AV.ofl 1 1)]), (Ob.z 1 es15)]) ∧ (R (TV.one (AV.fz (FV.str s10))) []))))))))
theorem print_Quoted_l0 {R : TV → List Ob → Prop} {s4 : ByteArray} {es : List (List FV)} (h : print_Quoted_R0 R s4 es) : print_Quoted_L0 R s4 es :=
  LoopAt.by_tr (by kernel_rfl) (by kernel_rfl) h
def print_Quoted_H (R : TV → List Ob → Prop) (s : ByteArray) : Prop :=
  (∃ es11 : List (List FV), ((Fn Tryz.prog 63 [(TV.one (AV.ptr 0 0 0 0)), (TV.one (AV.fz (FV.int .u8 34)))] [(Ob.g 88 [(AV.fz FV.nilp), (AV.nsl 1)])] (TV.one (AV.fz (FV.ifc false))) [(Ob.g 88 [(AV.ptr 0 0 0 0), (AV.ofl 1 1)]), (Ob.f 5 1 es11)]) ∧ (print_Quoted_L0 R s es11)))
theorem print_Quoted_fn (s : ByteArray) {r : TV} {h : List Ob} (H : print_Quoted_H (fun r' h' => r' = r ∧ h' = h) s) : Fn Tryz.prog 24 [(TV.one (AV.fz (FV.str s)))] [] r h :=
  Fn.by_tr (M := (modeOf [] [(63, [(Sig.mk 1 [(false, [(AT.a (AV.fz (FV.ifc false)))])] [(OT.g 88 [(AT.a (AV.ptr 0 0 0 0)), (AT.a (AV.ofl 1 1))]), (OT.f 5 1)] 0), (Sig.mk 2 [(false, [(AT.a (AV.fz (FV.ifc false)))])] [(OT.g 88 [(AT.a (AV.ptr 0 0 0 0)), (AT.a (AV.ofl 1 2))]), OT.no, (OT.f 5 1)] 0)]), (65, [(Sig.mk 1 [(false, [(AT.k (CK.int .i64))]), (false, [(AT.a (AV.fz (FV.ifc false)))])] [(OT.g 88 [(AT.a (AV.ptr 0 0 0 0)), (AT.a (AV.ofl 1 1))]), (OT.f 5 1)] 0), (Sig.mk 2 [(false, [(AT.k (CK.int .i64))]), (false, [(AT.a (AV.fz (FV.ifc false)))])] [(OT.g 88 [(AT.a (AV.ptr 0 0 0 0)), (AT.a (AV.ofl 1 2))]), OT.no, (OT.f 5 1)] 0)]), (59, [(Sig.mk 2 [(false, [(AT.k CK.str)])] [(OT.g 88 [(AT.a (AV.ptr 0 0 0 0)), (AT.a (AV.ofl 1 1))]), (OT.z 1)] 0)])])) (lv := print_Quoted_lv) (own := none) (F := Tryz.f24) (by kernel_rfl) (by kernel_rfl) (by first | decide | simp) (fun _ _ h => h) (by kernel_rfl) H
def print_Print_lv : List Nat → Keep := lvOf []
def print_Print_H (R : TV → List Ob → Prop) (d0 : Int) (d1 : ByteArray) (d2 : Bool) (d3 : List (List FV)) (d4 : List (List FV)) (d5 : Int) : Prop :=
  (∃ b1 : Bool, ((Fn Tryz.prog 57 [(TV.agg [(AV.fz (FV.int .i64 d0)), (AV.fz (FV.str d1)), (AV.fz (FV.bool d2)), (AV.fz (FV.sl 1 d3)), (AV.fz (FV.sl 6 d4)), (AV.fz (FV.int .i64 d5))])] [] (TV.one (AV.fz (FV.bool b1))) []) ∧ ((((Bool.not b1) = true) → (R (TV.tup [(false, [(AV.fz (FV.str (ByteArray.mk #[])))]), (false, [(AV.fz (FV.int .i64 2))])]) [])) ∧ (((Bool.not b1) = false) → (∃ es2 : List (List FV), ((Fn Tryz.prog 58 [(TV.one (AV.ptr 0 0 0 0)), (TV.agg [(AV.fz (FV.int .i64 d0)), (AV.fz (FV.str d1)), (AV.fz (FV.bool d2)), (AV.fz (FV.sl 1 d3)), (AV.fz (FV.sl 6 d4)), (AV.fz (FV.int .i64 d5))])] [(Ob.g 90 [(AV.fz FV.nilp), (AV.nsl 1)])] (TV.tup []) [(Ob.g 90 [(AV.ptr 0 0 0 0), (AV.ofl 1 1)]), (Ob.f 5 1 es2)]) ∧ (∃ es3 : List (List FV), (∃ s1 : ByteArray, ((Fn Tryz.prog 59 [(TV.one (AV.ptr 0 0 0 0))] [(Ob.g 90 [(AV.ptr 0 0 0 0), (AV.ofl 1 1)]), (Ob.f 5 1 es2)] (TV.one (AV.fz (FV.str s1))) [(Ob.g 90 [(AV.ptr 0 0 0 0), (AV.ofl 1 1)]), (Ob.z 1 es3)]) ∧ (R (TV.tup [(false, [(AV.fz (FV.str s1))]), (false, [(AV.fz (FV.int .i64 0))])]) []))))))))))
theorem print_Print_fn (d0 : Int) (d1 : ByteArray) (d2 : Bool) (d3 : List (List FV)) (d4 : List (List FV)) (d5 : Int) {r : TV} {h : List Ob} (H : print_Print_H (fun r' h' => r' = r ∧ h' = h) d0 d1 d2 d3 d4 d5) : Fn Tryz.prog 20 [(TV.agg [(AV.fz (FV.int .i64 d0)), (AV.fz (FV.str d1)), (AV.fz (FV.bool d2)), (AV.fz (FV.sl 1 d3)), (AV.fz (FV.sl 6 d4)), (AV.fz (FV.int .i64 d5))])] [] r h :=
  Fn.by_tr (M := (modeOf [] [(59, [(Sig.mk 2 [(false, [(AT.k CK.str)])] [(OT.g 90 [(AT.a (AV.ptr 0 0 0 0)), (AT.a (AV.ofl 1 1))]), (OT.z 1)] 0)]), (58, [(Sig.mk 1 [] [(OT.g 90 [(AT.a (AV.ptr 0 0 0 0)), (AT.a (AV.ofl 1 1))]), (OT.f 5 1)] 0), (Sig.mk 2 [] [(OT.g 90 [(AT.a (AV.ptr 0 0 0 0)), (AT.a (AV.ofl 1 2))]), OT.no, (OT.f 5 1)] 0)])])) (lv := print_Print_lv) (own := none) (F := Tryz.f20) (by kernel_rfl) (by kernel_rfl) (by first | decide | simp) (fun _ _ h => h) (by kernel_rfl) H
end Go.Proofs.YtejefchehdifhaaGreatDoor.Ev
end
section
set_option linter.unusedVariables false
set_option linter.unusedSimpArgs false
namespace Go.Proofs.YtejefchehdifhaaGreatDoor.Ev
open Go Go.RowKit
theorem encode_ok {c : Int} (hc : scalB c = true) : Utf8.encode c = bytesOf (utfB c) := by
  obtain ⟨h0, h1, h2⟩ := scal_in hc
  obtain ⟨n, rfl⟩ := Int.eq_ofNat_of_zero_le h0
  have hv : Utf8.valid (n : Int) = true := by unfold Utf8.valid; simp; omega
  unfold Utf8.encode utfB
  simp only [hv, if_true, Int.toNat_natCast]
  repeat' split
  all_goals try omega
  all_goals
    unfold bytesOf
    congr 1
theorem escape_ok (c : Int) (hc : scalB c = true) : Fn Tryz.prog 66 [fzI .i32 c] [] (.one (.fz (.str (bytesOf (escL c))))) [] := by
  obtain ⟨h0, h1, _⟩ := scal_in hc
  refine print_escape_fn _ ?_
  obtain ⟨R, hR, hRe⟩ := exR (.one (.fz (.str (bytesOf (escL c))))); rw [hRe]; clear hRe
  unfold print_escape_H
  simp only [beq_t, beq_f, dec_t, dec_f]
  have hu := utfB_le c
  have e92 : ByteArray.mk #[92] = bytesOf [92] := by decide +kernel
  have slash : c = 92 ∨ c = 34 → ((ByteArray.size (ByteArray.mk #[92]) + ByteArray.size (Utf8.encode c)) ≤ 9223372036854775807) ∧ R (.one (.fz (.str (ByteArray.mk #[92] ++ Utf8.encode c)))) [] := fun h => by
    rw [encode_ok hc, e92, size_of, size_of, app_of]
    have : escL c = [92] ++ utfB c := by unfold escL; rw [if_pos h]; rcases h with rfl | rfl <;> rfl
    rw [← this]
    exact ⟨by simp only [List.length_cons, List.length_nil]; omega, hR⟩
  have hex : (c < 32 ∨ c = 127) → escL c = [92, 120] ++ hexT c ++ [59] → ∃ s2 : ByteArray, (Fn Tryz.prog 100 [.one (.fz (.int .i64 (IntKind.wrap .i64 c))), .one (.fz (.int .i64 16))] [] (.one (.fz (.str s2))) []) ∧ ((ByteArray.size (ByteArray.mk #[92, 120]) + ByteArray.size s2) ≤ 9223372036854775807) ∧ ((ByteArray.size (ByteArray.mk #[92, 120] ++ s2) + ByteArray.size (ByteArray.mk #[59])) ≤ 9223372036854775807) ∧ R (.one (.fz (.str ((ByteArray.mk #[92, 120] ++ s2) ++ ByteArray.mk #[59])))) [] := fun h hE => by
    have h2 := (hexT_bytes (c := c) h0 (by omega)).2
    rw [w64 (n := c) (by omega) (by omega), show ByteArray.mk #[92, 120] = bytesOf [92, 120] from by decide +kernel, show ByteArray.mk #[59] = bytesOf [59] from by decide +kernel]
    refine ⟨_, FormatInt_ok c h0 (by omega), ?_, ?_, ?_⟩
    · rw [size_of, size_of]; simp; omega
    · rw [app_of, size_of, size_of]; simp; omega
    · rw [app_of, app_of, ← hE]; exact hR
  refine ⟨fun c1 => slash (.inl c1), fun c1 => ⟨fun c2 => slash (.inr c2), fun c2 => ⟨fun c3 => ?_, fun c3 => ⟨fun c4 => ?_, fun c4 => ⟨fun c5 => ?_, fun c5 => ⟨fun c6 => hex (.inl c6) ?_, fun c6 => ⟨fun c7 => hex (.inr c7) ?_, fun c7 => ?_⟩⟩⟩⟩⟩⟩⟩
  all_goals clear slash hex
  · unfold escL at hR; rw [if_neg (by omega), if_pos c3] at hR
    rw [show ByteArray.mk #[92, 110] = bytesOf [92, 110] from by decide +kernel]; exact hR
  · unfold escL at hR; rw [if_neg (by omega), if_neg c3, if_pos c4] at hR
    rw [show ByteArray.mk #[92, 116] = bytesOf [92, 116] from by decide +kernel]; exact hR
  · unfold escL at hR; rw [if_neg (by omega), if_neg c3, if_neg c4, if_pos c5] at hR
    rw [show ByteArray.mk #[92, 114] = bytesOf [92, 114] from by decide +kernel]; exact hR
  · unfold escL; rw [if_neg (by omega), if_neg c3, if_neg c4, if_neg c5, if_pos (.inl c6)]
  · unfold escL; rw [if_neg (by omega), if_neg c3, if_neg c4, if_neg c5, if_pos (.inr c7)]
  · unfold escL at hR; rw [if_neg (by omega), if_neg c3, if_neg c4, if_neg c5, if_neg (by omega)] at hR
    rw [encode_ok hc]; exact hR
theorem uName_ok (c : Int) (hc : scalB c = true) : Fn Tryz.prog 93 [fzI .i64 c] [] (.tup [(false, [.fz (.str (bytesOf (nameL c)))]), (false, [.fz (.int .i64 0)])]) [] := by
  obtain ⟨h0, h1, _⟩ := scal_in hc
  refine utf_Name_fn _ ?_
  obtain ⟨R, hR, hRe⟩ := exR (.tup [(false, [.fz (.str (bytesOf (nameL c)))]), (false, [.fz (.int .i64 0)])]); rw [hRe]; clear hRe
  unfold nameL at hR
  unfold utf_Name_H
  have hS := uScalar_ok c
  rw [hc] at hS
  refine ⟨_, hS, fun h => absurd h (by decide), fun _ => ?_⟩
  have step : ∀ (i : Int) (k : Int) (A : Array UInt8), 0 ≤ i → i < 6 →
      cutT [(AV.fz (.int .i64 32)), (.fz (.str (ByteArray.mk #[115, 112, 97, 99, 101]))), (.fz (.int .i64 10)), (.fz (.str (ByteArray.mk #[110, 101, 119, 108, 105, 110, 101]))), (.fz (.int .i64 9)), (.fz (.str (ByteArray.mk #[116, 97, 98]))), (.fz (.int .i64 13)), (.fz (.str (ByteArray.mk #[114, 101, 116, 117, 114, 110]))), (.fz (.int .i64 0)), (.fz (.str (ByteArray.mk #[110, 117, 108, 108]))), (.fz (.int .i64 127)), (.fz (.str (ByteArray.mk #[100, 101, 108, 101, 116, 101])))] ((Int.toNat i) * 2) 2 [.int .i64 k, .str (ByteArray.mk A)] →
      (k = c → R (.tup [(false, [.fz (.str (ByteArray.mk A))]), (false, [.fz (.int .i64 0)])]) []) → (k ≠ c → utf_Name_L0 R c (IntKind.wrap .i64 (i + 1))) → utf_Name_L0 R c i := fun i k A a0 a1 hcut hy hn => by
    refine utf_Name_l0 ?_
    unfold utf_Name_R0
    refine ⟨fun _ => ⟨⟨a0, a1⟩, _, _, hcut, fun e => hy (by simpa using e), fun e => hn (by simpa using e)⟩, fun h => absurd a1 (by simpa using h)⟩
  refine step 0 32 _ (by omega) (by omega) rfl (fun e => ?_) fun c1 => ?_
  · rw [if_pos e.symm] at hR; rw [nm0.2]; exact hR
  rw [if_neg (fun e => c1 e.symm)] at hR
  refine step 1 10 _ (by omega) (by omega) rfl (fun e => ?_) fun c2 => ?_
  · rw [if_pos e.symm] at hR; rw [nm1.2]; exact hR
  rw [if_neg (fun e => c2 e.symm)] at hR
  refine step 2 9 _ (by omega) (by omega) rfl (fun e => ?_) fun c3 => ?_
  · rw [if_pos e.symm] at hR; rw [nm2.2]; exact hR
  rw [if_neg (fun e => c3 e.symm)] at hR
  refine step 3 13 _ (by omega) (by omega) rfl (fun e => ?_) fun c4 => ?_
  · rw [if_pos e.symm] at hR; rw [nm3.2]; exact hR
  rw [if_neg (fun e => c4 e.symm)] at hR
  refine step 4 0 _ (by omega) (by omega) rfl (fun e => ?_) fun c5 => ?_
  · rw [if_pos e.symm] at hR; rw [nm4.2]; exact hR
  rw [if_neg (fun e => c5 e.symm)] at hR
  refine step 5 127 _ (by omega) (by omega) rfl (fun e => ?_) fun c6 => ?_
  · rw [if_pos e.symm] at hR; rw [nm5.2]; exact hR
  rw [if_neg (fun e => c6 e.symm)] at hR
  refine utf_Name_l0 ?_
  unfold utf_Name_R0
  refine ⟨fun h => absurd h (by decide), fun _ => ?_⟩
  simp only [dec_t, dec_f]
  refine ⟨fun h => ?_, fun h => ?_⟩
  · rw [if_pos h] at hR
    refine ⟨_, FormatInt_ok c h0 (by omega), ?_, ?_⟩
    · have := (hexT_bytes (c := c) h0 (by omega)).2
      rw [size_of, show (ByteArray.mk #[120]).size = 1 from rfl]; omega
    · rw [x_of]; exact hR
  · rw [if_neg h] at hR
    rw [show IntKind.wrap .i32 c = c from IntWalk.i32_in c ⟨by omega, by omega⟩, encode_ok hc]
    exact hR
theorem deN_pos {l : List Int} (hne : l ≠ []) : 1 ≤ deN l := by
  have hl : l.length ≠ 0 := fun h => hne (List.length_eq_zero_iff.1 h)
  unfold deN Lib.decodeGo
  rw [if_neg (by rw [size_of]; omega), Lib.decode_at]
  unfold Lib.decodeN
  repeat' split
  all_goals (simp only; omega)
theorem escL_bytes {c : Int} (hc : scalB c = true) : Bytes (escL c) := by
  obtain ⟨h0, h1, _⟩ := scal_in hc
  unfold escL
  repeat' split
  · intro x hx; simp at hx; omega
  · intro x hx; simp at hx; omega
  · intro x hx; simp at hx; omega
  · intro x hx; simp at hx; omega
  · rename_i h
    have := (hexT_bytes (c := c) h0 (by omega)).1
    intro x hx
    simp only [List.mem_append, List.mem_cons, List.not_mem_nil, or_false] at hx
    rcases hx with (hx | hx) | hx
    · omega
    · exact this x hx
    · omega
  · exact utfB_bytes hc
theorem bytes_cut {l : List Int} (hl : Bytes l) (m : Int) (h0 : 0 ≤ m) (h1 : m ≤ l.length) : (bytesOf l).extract (Int.toNat m) (bytesOf l).size = bytesOf (l.drop m.toNat) := by
  rw [extract_of, size_of, List.take_of_length_le (by rw [List.length_drop]; omega)]
theorem pQuoted_loop (R : TV → List Ob → Prop) : ∀ (f : Nat) (l out : List Int), l.length < f → Bytes l → Bytes out → out ≠ [] → out.length + 7 * l.length ≤ 90000000 →
    R (.one (.fz (.str (bytesOf (out ++ quoS f l))))) [] → print_Quoted_L0 R (bytesOf l) (ints .u8 out) := by
  intro f
  induction f with
  | zero => intro l out hf; omega
  | succ f ih =>
    intro l out hf hl hout hon ho hR
    refine print_Quoted_l0 ?_
    unfold print_Quoted_R0
    simp only [size_of, beq_t, beq_f, dec_t, dec_f]
    unfold quoS at hR
    by_cases hne : l = []
    · subst hne
      rw [if_pos rfl] at hR
      refine ⟨fun h => absurd h (by simp), fun _ => ⟨_, writeByteU_ok 34 out (by simp at ho; omega), _, _, stringU_ok (out ++ [34]) (by simp) ?_ (by simp at ho ⊢; omega), hR⟩⟩
      intro x hx
      rcases List.mem_append.1 hx with h | h
      · exact hout x h
      · simp at h; omega
    · have hl0 : l.length ≠ 0 := fun h => hne (List.length_eq_zero_iff.1 h)
      rw [if_neg hne] at hR
      have hbd := ch1_bounds hl hne
      have htk := ch1_take hl hne
      have hsc := ch1_scal hl hne
      refine ⟨fun _ => ⟨_, _, DecodeInString_fn l, ?_⟩, fun h => absurd h (by omega)⟩
      have step : ∀ (n : Int) (E : List Int), 1 ≤ n → n ≤ l.length → Bytes E → (E.length : Int) ≤ 7 * n → R (.one (.fz (.str (bytesOf (out ++ (E ++ quoS f (l.drop n.toNat))))))) [] → ∃ es13 : List (List FV), ∃ n14 : Int, (Fn Tryz.prog 65 [p0, .one (.fz (.str (bytesOf E)))] (bU out) (.tup [(false, [.fz (.int .i64 n14)]), (false, [.fz (.ifc false)])]) [.g 88 [.ptr 0 0 0 0, .ofl 1 2], .no, .f 5 1 es13]) ∧ ((0 : Int) ≤ n ∧ n ≤ ((l.length : Nat) : Int)) ∧ print_Quoted_L0 R ((bytesOf l).extract (Int.toNat n) l.length) es13 := fun n E hn0 hn1 hE hEl hRE => by
        have w := writeStringU_ok (bytesOf E) out (by rw [bs_of hE]; omega) (by omega)
        rw [bs_of hE] at w
        refine ⟨_, _, w, ⟨by omega, hn1⟩, ?_⟩
        have ec := bytes_cut hl n (by omega) hn1
        rw [size_of] at ec
        rw [ec]
        refine ih _ _ (by rw [List.length_drop]; omega) (drop_bytes hl _) ?_ (by simp [hon]) (by rw [List.length_append, List.length_drop]; omega) (by rw [List.append_assoc]; exact hRE)
        intro x hx
        rcases List.mem_append.1 hx with h | h
        · exact hout x h
        · exact hE x h
      rcases de_ch1 hl hne with ⟨e1, e2, e3⟩ | ⟨e1, e2⟩
      · rw [e1] at hR
        rw [if_pos rfl] at hR
        rw [e2, e3]
        refine ⟨fun _ => ⟨fun _ => ⟨⟨by omega, by omega⟩, ?_⟩, fun h => absurd h (by omega)⟩, fun h => absurd rfl h⟩
        have ex : (bytesOf l).extract 0 (Int.toNat 1) = bytesOf [rd l 0] := by
          rw [extract_of]
          cases l with
          | nil => exact absurd rfl hne
          | cons a t => rfl
        rw [ex]
        refine step 1 [rd l 0] (by omega) (by omega) ?_ (by simp) hR
        intro x hx
        simp at hx
        rw [hx]; exact rd_byte hl 0
      · generalize hp : ch1 l = p at *
        obtain ⟨c, n⟩ := p
        obtain ⟨rfl, rfl⟩ := Prod.mk.inj e1
        simp only at hbd htk hsc hR
        have hn1 : 1 ≤ deN l := by
          exact deN_pos hne
        rw [if_neg (by omega)] at hR
        have hsc := hsc (by omega)
        have hS : ∃ s9 : ByteArray, (Fn Tryz.prog 66 [.one (.fz (.int .i32 (deR l)))] [] (.one (.fz (.str s9))) []) ∧ ∃ es13 : List (List FV), ∃ n14 : Int, (Fn Tryz.prog 65 [p0, .one (.fz (.str s9))] (bU out) (.tup [(false, [.fz (.int .i64 n14)]), (false, [.fz (.ifc false)])]) [.g 88 [.ptr 0 0 0 0, .ofl 1 2], .no, .f 5 1 es13]) ∧ ((0 : Int) ≤ deN l ∧ deN l ≤ ((l.length : Nat) : Int)) ∧ print_Quoted_L0 R ((bytesOf l).extract (Int.toNat (deN l)) l.length) es13 := by
          refine ⟨_, escape_ok _ hsc, step (deN l) (escL (deR l)) hn1 (by omega) (escL_bytes hsc) ?_ hR⟩
          have := escL_len (c := deR l) hbd.1
          omega
        refine ⟨fun a => ⟨fun b => absurd ⟨a, b⟩ e2, fun _ => hS⟩, fun _ => hS⟩
theorem pQuoted_ok (T : List Int) (hT : Bytes T) (hlen : 7 * T.length ≤ 80000000) : Fn Tryz.prog 24 [.one (.fz (.str (bytesOf T)))] [] (.one (.fz (.str (bytesOf (quoV T))))) [] := by
  refine print_Quoted_fn _ ?_
  obtain ⟨R, hR, hRe⟩ := exR (.one (.fz (.str (bytesOf (quoV T))))); rw [hRe]; clear hRe
  unfold print_Quoted_H
  refine ⟨_, writeByteF_ok 34, ?_⟩
  exact pQuoted_loop R (T.length + 1) T [34] (by omega) hT (by intro x hx; simp at hx; omega) (by simp) (by simp; omega) hR
end Go.Proofs.YtejefchehdifhaaGreatDoor.Ev
end
section
set_option linter.unusedVariables false
set_option linter.unusedSimpArgs false
namespace Go.Proofs.YtejefchehdifhaaGreatDoor.Ev
open Go
theorem utfB_ne (c : Int) : utfB c ≠ [] := by
  unfold utfB
  repeat' split
  all_goals simp
theorem ch1_utfB {c : Int} (hc : scalB c = true) (r : List Int) : ch1 (utfB c ++ r) = (c, ((utfB c).length : Int)) := by
  obtain ⟨h0, h1, h2⟩ := scal_in hc
  unfold utfB
  by_cases c1 : c < 128
  · rw [if_pos c1]
    rw [List.cons_append, ch1_ascii c1]; rfl
  · rw [if_neg c1]
    by_cases c2 : c < 2048
    · rw [if_pos c2]
      unfold ch1 chN
      simp only [List.cons_append, List.nil_append, rd, List.getD_cons_zero, List.getD_cons_succ, List.length_cons, List.length_nil]
      rw [if_neg (by omega), if_pos (by omega), if_pos (by omega)]
      refine Prod.ext ?_ rfl
      simp only
      omega
    · rw [if_neg c2]
      by_cases c3 : c < 65536
      · rw [if_pos c3]
        unfold ch1 chN
        simp only [List.cons_append, List.nil_append, rd, List.getD_cons_zero, List.getD_cons_succ, List.length_cons, List.length_nil]
        have e : ((224 + c / 4096 - 224) * 64 + (128 + c / 64 % 64) - 128) * 64 + (128 + c % 64) - 128 = c := by omega
        rw [if_neg (by omega), if_neg (by omega), if_pos (by omega), e, if_pos (by omega)]
        rfl
      · rw [if_neg c3]
        unfold ch1 chN
        simp only [List.cons_append, List.nil_append, rd, List.getD_cons_zero, List.getD_cons_succ, List.length_cons, List.length_nil]
        have e : (((240 + c / 262144 - 240) * 64 + (128 + c / 4096 % 64) - 128) * 64 + (128 + c / 64 % 64) - 128) * 64 + (128 + c % 64) - 128 = c := by omega
        rw [if_neg (by omega), if_neg (by omega), if_neg (by omega), if_pos (by omega), e, if_pos (by omega)]
        rfl
theorem chs_back : ∀ (f at_ : Nat) (l acc : List Int), Bytes l → at_ ≤ l.length → l.length - at_ < f → (chs f l at_ acc).2 = -1 → ∃ X, (chs f l at_ acc).1 = acc ++ X ∧ enc X = l.drop at_ ∧ Scals X
  | 0, at_, l, acc, hb, hl, hf, h => by omega
  | f + 1, at_, l, acc, hb, hl, hf, h => by
    unfold chs at h ⊢
    by_cases hc : l.length ≤ at_
    · rw [if_pos hc]
      exact ⟨[], by simp, by rw [List.drop_eq_nil_of_le hc]; rfl, by intro c hc; cases hc⟩
    · rw [if_neg hc] at h ⊢
      have hne : l.drop at_ ≠ [] := fun e => by have := congrArg List.length e; simp at this; omega
      have hbd := ch1_bounds (drop_bytes hb at_) hne
      rw [List.length_drop] at hbd
      by_cases h0 : (ch1 (l.drop at_)).2 = 0
      · rw [if_pos h0] at h
        simp only at h
        omega
      · rw [if_neg h0] at h ⊢
        obtain ⟨X, h1, h2, h3⟩ := chs_back f _ l (acc ++ [(ch1 (l.drop at_)).1]) hb (by omega) (by omega) h
        have ht := ch1_take (drop_bytes hb at_) hne h0
        refine ⟨(ch1 (l.drop at_)).1 :: X, by rw [h1]; simp, ?_, ?_⟩
        · rw [enc_cons, h2, ← ht, ← List.drop_drop, List.take_append_drop]
        · intro c hc'
          rcases List.mem_cons.1 hc' with rfl | hc'
          · exact ch1_scal (drop_bytes hb at_) hne h0
          · exact h3 c hc'
theorem chars_back {T : List Int} (hT : Bytes T) (h : (chars T).2 = -1) : enc (chars T).1 = T ∧ Scals (chars T).1 := by
  obtain ⟨X, h1, h2, h3⟩ := chs_back (T.length + 1) 0 T [] hT (by omega) (by omega) h
  have e : (chars T).1 = X := by unfold chars; rw [h1]; simp
  rw [e]
  exact ⟨by simpa using h2, h3⟩
end Go.Proofs.YtejefchehdifhaaGreatDoor.Ev
end
section
set_option linter.unusedVariables false
set_option linter.unusedSimpArgs false
namespace Go.Proofs.YtejefchehdifhaaGreatDoor.Ev
open Go Go.RowKit
abbrev fzD' (k : Int) (t : ByteArray) (n : Bool) (l : List Int) (ds : List Dt) (a : Int) : TV := .agg [.fz (.int .i64 k), .fz (.str t), .fz (.bool n), .fz (.sl 1 (ints .u32 l)), .fz (.sl 6 (Dt.rows ds)), .fz (.int .i64 a)]
def plB (t : ByteArray) (n : Bool) (l : List Int) (dn : Nat) (text number list : Bool) : Bool := (text || decide (bs t = [])) && ((number || (!n && decide (l.length = 0))) && (list || decide (dn = 0)))
theorem empty_eq (t : ByteArray) : ((ByteArray.toList t) == (ByteArray.toList (ByteArray.mk #[]))) = decide (bs t = []) := by
  have := eq_bytes (m := []) (bs_bytes t) Bytes.nil
  rw [of_bs] at this
  exact this
theorem len_beq (n : Nat) : (((n : Nat) : Int) == 0) = decide (n = 0) := by
  rw [Bool.eq_iff_iff]; simp
theorem rdPlain_ok (k : Int) (t : ByteArray) (n : Bool) (l : List Int) (ds : List Dt) (a : Int) (text number list : Bool) : Fn Tryz.prog 123 [fzD' k t n l ds a, fzB text, fzB number, fzB list] [] (fzB (plB t n l ds.length text number list)) [] := by
  refine read_plain_fn _ _ _ _ _ _ _ _ _ ?_
  obtain ⟨R, hR, hRe⟩ : ∃ R : TV → List Ob → Prop, R (fzB (plB t n l ds.length text number list)) [] ∧ (fun r' h' => r' = (fzB (plB t n l ds.length text number list)) ∧ h' = []) = R := ⟨_, ⟨rfl, rfl⟩, rfl⟩
  rw [hRe]
  clear hRe
  unfold read_plain_H
  rw [ints_len, rows_len, empty_eq, len_beq, len_beq]
  unfold plB at hR
  generalize decide (bs t = []) = x at *
  generalize decide (l.length = 0) = y at *
  generalize decide (ds.length = 0) = z at *
  cases n <;> cases text <;> cases number <;> cases list <;> cases x <;> cases y <;> simp_all
def rcN (T : List Int) : Int := if 65536 < T.length then -1 else if (chars T).2 = -1 then ((chars T).1.length : Int) else -1
theorem rdChars_ok (t : ByteArray) : Fn Tryz.prog 141 [.one (.fz (.str t))] [] (fzI .i64 (rcN (bs t))) [] := by
  refine read_chars_fn _ ?_
  unfold read_chars_H rcN
  rw [map_bs]
  refine ⟨_, _, _, utfDecode_ok (bs t) (bs_bytes t), ?_⟩
  rw [bne_t, bne_f, ints_len]
  unfold decE decL
  by_cases h : 65536 < (bs t).length
  · simp [h]
  · by_cases h2 : (chars (bs t)).2 = -1
    · simp [h, h2]
    · simp [h, h2]
theorem chs_four : ∀ (f at_ : Nat) (l acc : List Int), Bytes l → l.length - at_ < f → at_ ≤ l.length → (chs f l at_ acc).2 = -1 → l.length - at_ + 4 * acc.length ≤ 4 * (chs f l at_ acc).1.length
  | 0, at_, l, acc, hb, hf, ha, h => by omega
  | f + 1, at_, l, acc, hb, hf, ha, h => by
    unfold chs at h ⊢
    split
    · simp only; omega
    · rename_i h1
      rw [if_neg h1] at h
      have hne : l.drop at_ ≠ [] := fun e => by have := congrArg List.length e; simp at this; omega
      have hbd := ch1_bounds (drop_bytes hb at_) hne
      rw [List.length_drop] at hbd
      split
      · rename_i h2
        rw [if_pos h2] at h
        simp only at h
        omega
      · rename_i h2
        rw [if_neg h2] at h
        have := chs_four f (at_ + (ch1 (l.drop at_)).2.toNat) l (acc ++ [(ch1 (l.drop at_)).1]) hb (by omega) (by omega) h
        rw [List.length_append, List.length_singleton] at this
        omega
theorem chars_four {l : List Int} (hb : Bytes l) (h : (chars l).2 = -1) : l.length ≤ 4 * (chars l).1.length := by
  have := chs_four (l.length + 1) 0 l [] hb (by omega) (by omega) h
  unfold chars
  simpa using this
def leafB (k : Int) (t : ByteArray) (n : Bool) (l : List Int) (dn : Nat) : Bool :=
  if k = 4 then decide (atomK (bs t) = 4) && plB t n l dn true false false
  else if k = 5 then decide (0 ≤ rcN (bs t) ∧ rcN (bs t) ≤ 4096) && plB t n l dn true false false
  else if k = 6 then decide (rcN (bs t) = 1) && plB t n l dn true false false
  else if k = 7 then sndB n l && plB t n l dn false true false
  else if k = 11 then plB t n l dn true false false
  else if k = 8 ∨ k = 9 ∨ k = 10 then plB t n l dn false false false
  else false
set_option maxHeartbeats 1000000 in
theorem rdLeaf_ok (k : Int) (t : ByteArray) (n : Bool) (l : List Int) (ds : List Dt) (a : Int) (ht : t.size ≤ 1048576) (hl : l.length * 4 ≤ 140737488355328) : Fn Tryz.prog 122 [fzD' k t n l ds a] [] (fzB (leafB k t n l ds.length)) [] := by
  refine read_leaf_fn _ _ _ _ _ _ ?_
  obtain ⟨R, hR, hRe⟩ : ∃ R : TV → List Ob → Prop, R (fzB (leafB k t n l ds.length)) [] ∧ (fun r' h' => r' = (fzB (leafB k t n l ds.length)) ∧ h' = []) = R := ⟨_, ⟨rfl, rfl⟩, rfl⟩
  rw [hRe]
  clear hRe
  unfold read_leaf_H
  unfold leafB at hR
  have hA := tAtom_ok (bs t) (bs_bytes t) (by rw [← size_bs]; omega)
  rw [of_bs] at hA
  simp only [beq_t, beq_f]
  refine ⟨fun h => ⟨_, _, _, _, _, _, _, hA, fun h2 => ⟨fun h3 => ⟨_, rdPlain_ok k t n l ds a _ _ _, ?_⟩, fun h3 => ?_⟩, fun h2 => ?_⟩, fun k4 => ⟨fun h => ⟨_, rdChars_ok t, ?_⟩, fun k5 => ⟨fun h => ⟨_, rdChars_ok t, ?_⟩, fun k6 => ⟨fun h => ⟨_, sound_ok n l (by omega), ?_⟩, fun k7 => ⟨fun h => ⟨_, rdPlain_ok k t n l ds a _ _ _, ?_⟩, fun k11 => ⟨fun h => ⟨_, rdPlain_ok k t n l ds a _ _ _, ?_⟩, fun k8 => ⟨fun h => ⟨_, rdPlain_ok k t n l ds a _ _ _, ?_⟩, fun k9 => ⟨fun h => ⟨_, rdPlain_ok k t n l ds a _ _ _, ?_⟩, fun k10 => ?_⟩⟩⟩⟩⟩⟩⟩⟩
  · rw [if_pos h, decide_eq_true h3, Bool.true_and] at hR; exact hR
  · rw [if_pos h, decide_eq_false h3, Bool.false_and] at hR; exact hR
  · have : ¬ atomK (bs t) = 4 := fun h4 => by rw [h4] at h2; simp at h2
    rw [if_pos h, decide_eq_false this, Bool.false_and] at hR; exact hR
  · rw [if_neg k4, if_pos h] at hR
    rw [dec_t, dec_f, dec_t, dec_f]
    refine ⟨fun h2 => ⟨fun h3 => ⟨_, rdPlain_ok k t n l ds a _ _ _, ?_⟩, fun h3 => ?_⟩, fun h2 => ?_⟩
    · rw [decide_eq_true ⟨h2, h3⟩, Bool.true_and] at hR; exact hR
    · rw [decide_eq_false (fun hx => h3 hx.2), Bool.false_and] at hR; exact hR
    · rw [decide_eq_false (fun hx => h2 hx.1), Bool.false_and] at hR; exact hR
  · rw [if_neg k4, if_neg k5, if_pos h] at hR
    refine ⟨fun h2 => ⟨_, rdPlain_ok k t n l ds a _ _ _, ?_⟩, fun h2 => ?_⟩
    · rw [decide_eq_true h2, Bool.true_and] at hR; exact hR
    · rw [decide_eq_false h2, Bool.false_and] at hR; exact hR
  · rw [if_neg k4, if_neg k5, if_neg k6, if_pos h] at hR
    refine ⟨fun h2 => ⟨_, rdPlain_ok k t n l ds a _ _ _, ?_⟩, fun h2 => ?_⟩
    · rw [h2, Bool.true_and] at hR; exact hR
    · rw [h2, Bool.false_and] at hR; exact hR
  · rw [if_neg k4, if_neg k5, if_neg k6, if_neg k7, if_pos h] at hR; exact hR
  · rw [if_neg k4, if_neg k5, if_neg k6, if_neg k7, if_neg k11, if_pos (.inl h)] at hR; exact hR
  · rw [if_neg k4, if_neg k5, if_neg k6, if_neg k7, if_neg k11, if_pos (.inr (.inl h))] at hR; exact hR
  · rw [if_neg k4, if_neg k5, if_neg k6, if_neg k7, if_neg k11, if_pos (.inr (.inr h))] at hR; exact hR
  · rw [if_neg k4, if_neg k5, if_neg k6, if_neg k7, if_neg k11, if_neg (by omega)] at hR; exact hR
def Dt.kind : Dt → Int
  | .mk k _ _ _ _ _ => k
def dotB (k : Int) (ds : List Dt) : Bool := if k = 2 then match ds.getLast? with
  | some x => decide (2 ≤ ds.length) && (decide (x.kind ≠ 1) && decide (x.kind ≠ 2))
  | none => false
  else true
mutual
def Dt.meas : Dt → Int → Int → Int
  | .mk k t n l ds a, dp, room =>
    if 64 < dp ∨ room < 1 then -1
    else if k = 1 ∨ k = 3 ∨ k = 2 then (if (plB t n l ds.length false false true && dotB k ds) = true then Dt.measL ds (dp + 1) room 1 else -1)
    else if leafB k t n l ds.length = true then 1 else -1
def Dt.measL : List Dt → Int → Int → Int → Int
  | [], _, _, n => n
  | x :: xs, dp, room, n => if x.meas dp (room - n) < 0 then -1 else Dt.measL xs dp room (n + x.meas dp (room - n))
end
mutual
theorem meas_le : ∀ (x : Dt) (dp room : Int), x.meas dp room = -1 ∨ (1 ≤ x.meas dp room ∧ x.meas dp room ≤ room)
  | .mk k t n l ds a, dp, room => by
    unfold Dt.meas
    split
    · exact .inl rfl
    · rename_i h
      split
      · split
        · exact measL_le ds (dp + 1) room 1 (by omega) (by omega)
        · exact .inl rfl
      · split
        · right; omega
        · exact .inl rfl
theorem measL_le : ∀ (xs : List Dt) (dp room n : Int), 1 ≤ n → n ≤ room → Dt.measL xs dp room n = -1 ∨ (1 ≤ Dt.measL xs dp room n ∧ Dt.measL xs dp room n ≤ room)
  | [], dp, room, n, h0, h1 => by unfold Dt.measL; exact .inr ⟨h0, h1⟩
  | x :: xs, dp, room, n, h0, h1 => by
    have hx := meas_le x dp (room - n)
    unfold Dt.measL
    split
    · exact .inl rfl
    · exact measL_le xs dp room _ (by omega) (by omega)
end
theorem rows_last {ds : List Dt} {x : Dt} (h : ds.getLast? = some x) : ds.length ≠ 0 ∧ (Dt.rows ds)[ds.length - 1]? = some x.row := by
  have hne : ds ≠ [] := fun e => by rw [e] at h; cases h
  refine ⟨fun e => hne (List.length_eq_zero_iff.1 e), drow_at ?_⟩
  rw [← List.getLast?_eq_getElem?]; exact h
theorem getLast_some {ds : List Dt} (h : 2 ≤ ds.length) : ∃ x, ds.getLast? = some x := by
  cases hx : ds.getLast? with
  | some x => exact ⟨x, rfl⟩
  | none => rw [List.getLast?_eq_none_iff] at hx; subst hx; simp at h
theorem dotB_some {xs : List Dt} {x : Dt} (hx : xs.getLast? = some x) : dotB 2 xs = (decide (2 ≤ xs.length) && (decide (x.kind ≠ 1) && decide (x.kind ≠ 2))) := by
  unfold dotB; rw [if_pos rfl, hx]
theorem dotB_short {xs : List Dt} (h : xs.length < 2) : dotB 2 xs = false := by
  unfold dotB
  rw [if_pos rfl]
  cases xs.getLast? with
  | none => rfl
  | some x => simp only; rw [decide_eq_false (by omega), Bool.false_and]
theorem dotB_ne {k : Int} {xs : List Dt} (h : k ≠ 2) : dotB k xs = true := if_neg h
theorem rdMeasure_loop (k : Int) (t : ByteArray) (n : Bool) (l : List Int) (a : Int) (xs : List Dt) (hl : xs.length * 88 ≤ 140737488355328) (dp room : Int) (hd0 : 0 ≤ dp) (hd1 : dp ≤ 64) (hr : room ≤ 8192)
    (hp : ∀ x ∈ xs, ∀ r : Int, r ≤ 8192 → -8192 ≤ r → Fn Tryz.prog 91 [fzD x, fzI .i64 (dp + 1), fzI .i64 r] [] (fzI .i64 (x.meas (dp + 1) r)) [])
    (R : TV → List Ob → Prop) (hR : R (fzI .i64 (if (plB t n l xs.length false false true && dotB k xs) = true then Dt.measL xs (dp + 1) room 1 else -1)) []) :
    ∀ (d j : Nat) (m : Int), j + d = xs.length → 1 ≤ m → m ≤ room → Dt.measL xs (dp + 1) room 1 = Dt.measL (xs.drop j) (dp + 1) room m → read_measure_L0 R k t n (ints .u32 l) (Dt.rows xs) a dp room m j
  | 0, j, m, hj, h0, h1, h => by
    refine read_measure_l0 ?_
    unfold read_measure_R0
    rw [rows_len, dec_t, dec_f]
    refine ⟨fun h => by omega, fun _ => ⟨_, rdPlain_ok k t n l xs a _ _ _, ?_⟩⟩
    rw [h, List.drop_of_length_le (by omega)] at hR
    unfold Dt.measL at hR
    rw [not_t, not_f]
    refine ⟨fun h2 => ?_, fun h2 => ?_⟩
    · rw [h2] at hR; exact hR
    · rw [h2, Bool.true_and] at hR
      rw [beq_t, beq_f]
      refine ⟨fun h3 => ?_, fun h3 => ?_⟩
      · subst h3
        rw [dec_t, dec_f]
        refine ⟨fun h4 => ?_, fun h4 => ?_⟩
        · rw [dotB_short (by omega)] at hR; exact hR
        · obtain ⟨x, hx⟩ := getLast_some (ds := xs) (by omega)
          obtain ⟨g1, g2⟩ := rows_last hx
          have e := dotB_some hx
          rw [decide_eq_true (show 2 ≤ xs.length by omega), Bool.true_and] at e
          have e1 : IntKind.wrap .i64 ((xs.length : Int) - 1) = ((xs.length - 1 : Nat) : Int) := by rw [w64 (by omega) (by omega)]; omega
          rw [e1, Int.toNat_natCast]
          obtain ⟨k', t', n', l', ys, a'⟩ := x
          simp only [Dt.row] at g2
          have ek : (Dt.mk k' t' n' l' ys a').kind = k' := rfl
          rw [ek] at e
          refine ⟨by omega, _, _, _, _, _, _, g2, ?_⟩
          rw [beq_t, beq_f, beq_t, beq_f]
          refine ⟨fun h5 => ?_, fun h5 => ⟨fun h6 => ?_, fun h6 => ?_⟩⟩
          · rw [decide_eq_false (fun hx => hx h5), Bool.false_and] at e
            rw [e] at hR; exact hR
          · rw [decide_eq_false (p := k' ≠ 2) (fun hx => hx h6), Bool.and_false] at e
            rw [e] at hR; exact hR
          · rw [decide_eq_true h5, decide_eq_true h6] at e
            rw [e] at hR; exact hR
      · rw [dotB_ne h3] at hR; exact hR
  | d + 1, j, m, hj, h0, h1, h => by
    have hF := hp xs[j] (List.getElem_mem _) (room - m) (by omega) (by omega)
    have hr' := drow_at (List.getElem?_eq_getElem (show j < xs.length by omega))
    have hd : xs.drop j = xs[j] :: xs.drop (j + 1) := List.drop_eq_getElem_cons (by omega)
    have hle := meas_le xs[j] (dp + 1) (room - m)
    rw [hd] at h
    simp only [Dt.measL] at h
    generalize xs[j] = y at hF hr' h hle
    obtain ⟨k', t', n', l', ys, a'⟩ := y
    unfold fzD at hF
    simp only [Dt.row, List.map_cons, List.map_nil] at hF hr'
    refine read_measure_l0 ?_
    unfold read_measure_R0
    have e : IntKind.wrap .i64 ((j : Int) + 1) = ((j + 1 : Nat) : Int) := w64 (by omega) (by omega)
    have e2 : IntKind.wrap .i64 (dp + 1) = dp + 1 := w64 (by omega) (by omega)
    have e3 : IntKind.wrap .i64 (room - m) = room - m := w64 (by omega) (by omega)
    rw [rows_len, dec_t, dec_f, e, e2, e3]
    refine ⟨fun _ => ⟨by omega, _, _, _, _, _, _, hr', _, hF, ?_⟩, fun h => by omega⟩
    rw [dec_t, dec_f]
    generalize (Dt.mk k' t' n' l' ys a').meas (dp + 1) (room - m) = q at *
    refine ⟨fun h2 => ?_, fun h2 => ?_⟩
    · rw [if_pos h2] at h
      rw [h] at hR
      simpa using hR
    · rw [if_neg h2] at h
      have e4 : IntKind.wrap .i64 (m + q) = m + q := w64 (by omega) (by omega)
      rw [e4]
      exact rdMeasure_loop k t n l a xs hl dp room hd0 hd1 hr hp R hR d (j + 1) (m + q) (by omega) (by omega) (by omega) h
mutual
theorem rdMeasure_ok : ∀ (x : Dt) (dp room : Int), x.ok → 0 ≤ dp → dp ≤ 100 → room ≤ 8192 → -8192 ≤ room → Fn Tryz.prog 91 [fzD x, fzI .i64 dp, fzI .i64 room] [] (fzI .i64 (x.meas dp room)) []
  | .mk k t n l xs a, dp, room, hok, h0, h1, h2, h3 => by
    unfold Dt.ok at hok
    obtain ⟨_, ht, _, hl4, hxl, hxs, _⟩ := hok
    have hxl : xs.length * 88 ≤ 140737488355328 := by omega
    have hall := fun (h64 : ¬ 64 < dp) => rdMeasure_all xs (dp + 1) hxs (by omega) (by omega)
    unfold fzD
    simp only [Dt.row, List.map_cons, List.map_nil]
    refine read_measure_fn _ _ _ _ _ _ _ _ ?_
    obtain ⟨R, hR, hRe⟩ : ∃ R : TV → List Ob → Prop, R (fzI .i64 ((Dt.mk k t n l xs a).meas dp room)) [] ∧ (fun r' h' => r' = (fzI .i64 ((Dt.mk k t n l xs a).meas dp room)) ∧ h' = []) = R := ⟨_, ⟨rfl, rfl⟩, rfl⟩
    rw [hRe]
    clear hRe
    unfold read_measure_H
    unfold Dt.meas at hR
    rw [dec_t, dec_f, dec_t, dec_f]
    refine ⟨fun h => ?_, fun h4 => ⟨fun h => ?_, fun h5 => ?_⟩⟩
    · rw [if_pos (.inl h)] at hR; exact hR
    · rw [if_pos (.inr h)] at hR; exact hR
    · rw [if_neg (by omega)] at hR
      have go : (k = 1 ∨ k = 3 ∨ k = 2) → read_measure_L0 R k t n (ints .u32 l) (Dt.rows xs) a dp room 1 0 := fun hk => by
        rw [if_pos hk] at hR
        exact rdMeasure_loop k t n l a xs hxl dp room h0 (by omega) h2 (fun x hx r hr hr' => hall h4 x hx r hr hr') R hR xs.length 0 1 (by omega) (by omega) (by omega) rfl
      rw [beq_t, beq_f, beq_t, beq_f, beq_t, beq_f]
      refine ⟨fun h => go (.inl h), fun k1 => ⟨fun h => go (.inr (.inl h)), fun k3 => ⟨fun h => go (.inr (.inr h)), fun k2 => ⟨_, rdLeaf_ok k t n l xs a ht hl4, ?_⟩⟩⟩⟩
      rw [if_neg (by omega)] at hR
      rw [not_t, not_f]
      refine ⟨fun h => ?_, fun h => ?_⟩
      · rw [if_neg (by rw [h]; simp)] at hR; exact hR
      · rw [if_pos h] at hR; exact hR
theorem rdMeasure_all : ∀ (xs : List Dt) (dp : Int), Dt.oks xs → 0 ≤ dp → dp ≤ 100 → ∀ x ∈ xs, ∀ room : Int, room ≤ 8192 → -8192 ≤ room → Fn Tryz.prog 91 [fzD x, fzI .i64 dp, fzI .i64 room] [] (fzI .i64 (x.meas dp room)) []
  | [], dp, hok, h0, h1 => fun x hx => by cases hx
  | y :: xs, dp, hok, h0, h1 => fun x hx room hr hr' => by
    unfold Dt.oks at hok
    have h2 := rdMeasure_ok y dp room hok.1 h0 h1 hr hr'
    have h3 := rdMeasure_all xs dp hok.2 h0 h1
    rcases List.mem_cons.1 hx with rfl | hx
    · exact h2
    · exact h3 x hx room hr hr'
end
def Dt.snd (x : Dt) : Bool := decide (0 < x.meas 1 8192)
theorem readSound_ok (x : Dt) (hx : x.ok) : Fn Tryz.prog 57 [fzD x] [] (fzB x.snd) [] := by
  have h := rdMeasure_ok x 1 8192 hx (by omega) (by omega) (by omega) (by omega)
  unfold Dt.snd
  obtain ⟨k, t, n, l, xs, a⟩ := x
  unfold fzD at h ⊢
  simp only [Dt.row, List.map_cons, List.map_nil] at h ⊢
  refine read_Sound_fn _ _ _ _ _ _ ?_
  unfold read_Sound_H
  exact ⟨_, h, rfl, rfl⟩
end Go.Proofs.YtejefchehdifhaaGreatDoor.Ev
end
section
set_option linter.unusedVariables false
set_option linter.unusedSimpArgs false
namespace Go.Proofs.YtejefchehdifhaaGreatDoor.Ev
open Go Go.RowKit
theorem rcN_one (T : List Int) (hT : Bytes T) : (rcN T = 1) ↔ ((chars T).2 < 0 ∧ (chL T).length = 1) := by
  unfold rcN chL
  rcases chs_bad (T.length + 1) 0 T [] with h | h
  · have h' : (chars T).2 = -1 := h
    have h4 := chars_four hT h'
    rw [if_pos h', if_pos h']
    split <;> omega
  · have h' : ¬ (chars T).2 = -1 := fun e => by have : (chars T).2 = -1 := e; unfold chars at this; omega
    have h'' : ¬ (chars T).2 < 0 := fun e => by unfold chars at e; omega
    rw [if_neg h', if_neg h']
    split <;> omega
end Go.Proofs.YtejefchehdifhaaGreatDoor.Ev
end
section
set_option linter.unusedVariables false
set_option linter.unusedSimpArgs false
namespace Go.Proofs.YtejefchehdifhaaGreatDoor.Ev
open Go
mutual
def Dt.txt : Dt → List Int
  | .mk k t n l ds a =>
    if k = 4 then bs t else if k = 5 then quoV (bs t) else if k = 6 then [35, 92] ++ nameL (deR (bs t)) else if k = 7 then numT n l
    else if k = 8 then [35, 116] else if k = 9 then [35, 102] else if k = 10 then [35, 60, 118, 111, 105, 100, 62] else if k = 11 then [35, 60] ++ bs t ++ [62]
    else (if k = 3 then [35, 40] else [40]) ++ Dt.txts (decide (k = 2)) true ds
def Dt.txts (dot first : Bool) : List Dt → List Int
  | [] => [41]
  | x :: xs => (if first = true then [] else [32]) ++ ((if dot = true ∧ xs = [] then [46, 32] else []) ++ (x.txt ++ Dt.txts dot false xs))
end
mutual
def Dt.fit : Dt → Prop
  | .mk k t n l ds a => (1 ≤ k ∧ k ≤ 11) ∧ (k = 6 → ∃ c, scalB c = true ∧ bs t = utfB c) ∧ (k = 7 → sndB n l = true) ∧ (k = 4 → bs t ≠ []) ∧ Dt.fits ds
def Dt.fits : List Dt → Prop
  | [] => True
  | d :: ds => d.fit ∧ Dt.fits ds
end
theorem plB_nil {t : ByteArray} {n : Bool} {l : List Int} {dn : Nat} {a b : Bool} (h : plB t n l dn a b false = true) : dn = 0 := by
  unfold plB at h
  simp at h
  exact h.2.2
theorem leafB_fit {k : Int} {t : ByteArray} {n : Bool} {l : List Int} {dn : Nat} (h : leafB k t n l dn = true) : (4 ≤ k ∧ k ≤ 11) ∧ (k = 6 → ∃ c, scalB c = true ∧ bs t = utfB c) ∧ (k = 7 → sndB n l = true) ∧ (k = 4 → bs t ≠ []) ∧ dn = 0 := by
  unfold leafB at h
  by_cases c4 : k = 4
  · rw [if_pos c4, Bool.and_eq_true] at h
    refine ⟨by omega, fun e => absurd e (by omega), fun e => absurd e (by omega), fun _ e => ?_, plB_nil h.2⟩
    rw [e] at h
    exact absurd h.1 (by decide)
  rw [if_neg c4] at h
  by_cases c5 : k = 5
  · rw [if_pos c5, Bool.and_eq_true] at h
    exact ⟨by omega, fun e => absurd e (by omega), fun e => absurd e (by omega), fun e => absurd e (by omega), plB_nil h.2⟩
  rw [if_neg c5] at h
  by_cases c6 : k = 6
  · rw [if_pos c6, Bool.and_eq_true] at h
    refine ⟨by omega, fun _ => ?_, fun e => absurd e (by omega), fun e => absurd e (by omega), plB_nil h.2⟩
    have hb := bs_bytes t
    obtain ⟨h1, h2⟩ := (rcN_one (bs t) hb).1 (of_decide_eq_true h.1)
    have hm : (chars (bs t)).2 = -1 := by have := chars_snd (bs t); omega
    rw [chL_eq _ hm] at h2
    obtain ⟨e1, e2⟩ := chars_back hb hm
    generalize (chars (bs t)).1 = C at *
    match C, h2 with
    | [c], _ => exact ⟨c, e2 c (by simp), by rw [← e1]; simp [enc]⟩
  rw [if_neg c6] at h
  by_cases c7 : k = 7
  · rw [if_pos c7, Bool.and_eq_true] at h
    exact ⟨by omega, fun e => absurd e (by omega), fun _ => h.1, fun e => absurd e (by omega), plB_nil h.2⟩
  rw [if_neg c7] at h
  by_cases c11 : k = 11
  · rw [if_pos c11] at h
    exact ⟨by omega, fun e => absurd e (by omega), fun e => absurd e (by omega), fun e => absurd e (by omega), plB_nil h⟩
  rw [if_neg c11] at h
  by_cases c8 : k = 8 ∨ k = 9 ∨ k = 10
  · rw [if_pos c8] at h
    exact ⟨by omega, fun e => absurd e (by omega), fun e => absurd e (by omega), fun e => absurd e (by omega), plB_nil h⟩
  · rw [if_neg c8] at h; cases h
mutual
theorem fit_meas : ∀ (x : Dt) (dp room : Int), 0 < x.meas dp room → x.fit
  | .mk k t n l ds a, dp, room, h => by
    unfold Dt.meas at h
    unfold Dt.fit
    by_cases c : 64 < dp ∨ room < 1
    · rw [if_pos c] at h; omega
    rw [if_neg c] at h
    by_cases c2 : k = 1 ∨ k = 3 ∨ k = 2
    · rw [if_pos c2] at h
      split at h
      · exact ⟨by omega, fun e => absurd e (by omega), fun e => absurd e (by omega), fun e => absurd e (by omega), fits_meas ds _ _ _ h⟩
      · omega
    · rw [if_neg c2] at h
      split at h
      · rename_i hl
        obtain ⟨h1, h2, h3, h5, h4⟩ := leafB_fit hl
        refine ⟨by omega, h2, h3, h5, ?_⟩
        rw [List.length_eq_zero_iff.1 h4]
        trivial
      · omega
theorem fits_meas : ∀ (xs : List Dt) (dp room n : Int), 0 < Dt.measL xs dp room n → Dt.fits xs
  | [], _, _, _, _ => trivial
  | x :: xs, dp, room, n, h => by
    unfold Dt.measL at h
    unfold Dt.fits
    by_cases c : x.meas dp (room - n) < 0
    · rw [if_pos c] at h; omega
    · rw [if_neg c] at h
      refine ⟨fit_meas x dp (room - n) ?_, fits_meas xs _ _ _ h⟩
      have := meas_le x dp (room - n)
      omega
end
theorem fit_of_snd {x : Dt} (h : x.snd = true) : x.fit := fit_meas x 1 8192 (of_decide_eq_true h)
theorem quoS_bytes : ∀ (f : Nat) (l : List Int), Bytes l → Bytes (quoS f l) ∧ (quoS f l).length ≤ 6 * l.length + 1
  | 0, l, h => ⟨by intro x hx; simp [quoS] at hx; omega, by simp [quoS]⟩
  | f + 1, l, h => by
    unfold quoS
    by_cases c : l = []
    · rw [if_pos c]; exact ⟨by intro x hx; simp at hx; omega, by simp⟩
    rw [if_neg c]
    have hl0 : l.length ≠ 0 := fun h => c (List.length_eq_zero_iff.1 h)
    have hbd := ch1_bounds h c
    by_cases c2 : (ch1 l).2 = 0
    · rw [if_pos c2]
      obtain ⟨i1, i2⟩ := quoS_bytes f (l.drop 1) (drop_bytes h _)
      rw [List.length_drop] at i2
      refine ⟨?_, by rw [List.length_cons]; omega⟩
      intro x hx
      rcases List.mem_cons.1 hx with rfl | hx
      · exact rd_byte h 0
      · exact i1 x hx
    · rw [if_neg c2]
      obtain ⟨i1, i2⟩ := quoS_bytes f (l.drop (ch1 l).2.toNat) (drop_bytes h _)
      rw [List.length_drop] at i2
      have he := escL_len (c := (ch1 l).1) hbd.1
      exact ⟨Bytes.append (escL_bytes (ch1_scal h c c2)) i1, by rw [List.length_append]; omega⟩
theorem quoV_bytes {T : List Int} (h : Bytes T) : Bytes (quoV T) ∧ (quoV T).length ≤ 6 * T.length + 2 := by
  obtain ⟨i1, i2⟩ := quoS_bytes (T.length + 1) T h
  unfold quoV
  refine ⟨?_, by rw [List.length_cons]; omega⟩
  intro x hx
  rcases List.mem_cons.1 hx with rfl | hx
  · omega
  · exact i1 x hx
theorem nameL_bytes {c : Int} (hc : scalB c = true) : Bytes (nameL c) ∧ (nameL c).length ≤ 10 := by
  obtain ⟨h0, h1, _⟩ := scal_in hc
  unfold nameL
  repeat' split
  · exact ⟨by intro x hx; simp at hx; omega, by simp⟩
  · exact ⟨by intro x hx; simp at hx; omega, by simp⟩
  · exact ⟨by intro x hx; simp at hx; omega, by simp⟩
  · exact ⟨by intro x hx; simp at hx; omega, by simp⟩
  · exact ⟨by intro x hx; simp at hx; omega, by simp⟩
  · exact ⟨by intro x hx; simp at hx; omega, by simp⟩
  · obtain ⟨i1, i2⟩ := hexT_bytes (c := c) h0 (by omega)
    refine ⟨?_, by rw [List.length_cons]; omega⟩
    intro x hx
    rcases List.mem_cons.1 hx with rfl | hx
    · omega
    · exact i1 x hx
  · have := utfB_le c
    exact ⟨utfB_bytes hc, by omega⟩
theorem numT_len (s : Bool) (l : List Int) (hu : U32 l) (h : sndB s l = true) : (numT s l).length ≤ 577 ∧ (l.length = 0 → (numT s l).length ≤ 1) := by
  obtain ⟨hl, hL⟩ : l.length ≤ 64 ∧ Lim 1000000000 l := by
    unfold sndB at h
    simp only [Bool.and_eq_true, decide_eq_true_eq, List.all_eq_true] at h
    exact ⟨h.1.1, fun x hx => ⟨(hu x hx).1, h.1.2 x hx⟩⟩
  unfold numT
  rw [if_pos h]
  refine ⟨?_, fun e => by rw [if_pos e]; simp⟩
  split
  · simp
  · have hv : val 1000000000 l < 1000000000 ^ l.length := val_lt (by omega) hL
    have hv0 : 0 ≤ val 1000000000 l := val_nonneg (by omega) hL
    have h2 : (1000000000 : Int) ^ l.length ≤ 1000000000 ^ 64 := pow_mono (by omega) (by omega)
    have h3 : (10 : Int) ^ 576 = 1000000000 ^ 64 := pow9 64
    have h4 : (((10 : Nat) ^ 576 : Nat) : Int) = 10 ^ 576 := cast_ten_pow 576
    have h1 : (digs 10 (val 1000000000 l).toNat).length ≤ 576 := by
      rw [digs_len (by omega)]
      omega
    rw [List.length_append, tdig_len]
    split
    · simp only [List.length_cons, List.length_nil]; omega
    · simp only [List.length_nil]; omega
end Go.Proofs.YtejefchehdifhaaGreatDoor.Ev
end
section
set_option linter.unusedVariables false
set_option maxRecDepth 100000
namespace Go.Proofs.YtejefchehdifhaaGreatDoor.Ev
open Go
def prF_list_lv : List Nat → Keep := lvOf [([0, 1, 0, 1], ⟨28679, 0, [], false, false⟩)]
def prF_list_S0 (list : List (List FV)) (dotted : Bool) (i : Int) (es : List (List FV)) : St := (St.mk [(TV.one (AV.ptr 0 0 0 90)), (TV.one (AV.fz (FV.sl 6 list))), (TV.one (AV.fz (FV.bool dotted))), TV.und, TV.und, TV.und, TV.und, TV.und, TV.und, TV.und, TV.und, TV.und, (TV.one (AV.fz (FV.sl 6 list))), (TV.one (AV.fz (FV.int .i64 (((List.length list) : Nat) : Int)))), (TV.one (AV.fz (FV.int .i64 i))), TV.und, TV.und, TV.und, TV.und, TV.und, TV.und, TV.und, TV.und, TV.und, TV.und, TV.und, TV.und, TV.und, TV.und, TV.und, TV.und, TV.und, TV.und, TV.und, TV.und, TV.und, TV.und, TV.und, TV.und, TV.und, TV.und, TV.und, TV.und, TV.und, TV.und] [(Ob.g 90 [(AV.ptr 0 0 0 0), (AV.ofl 1 1)]), (Ob.f 5 1 es)])
def prF_list_L0 (R : TV → List Ob → Prop) (list : List (List FV)) (dotted : Bool) (i : Int) (es : List (List FV)) : Prop := LoopAt Tryz.prog (modeOf [] [(63, [(Sig.mk 1 [(false, [(AT.a (AV.fz (FV.ifc false)))])] [(OT.g 90 [(AT.a (AV.ptr 0 0 0 0)), (AT.a (AV.ofl 1 1))]), (OT.f 5 1)] 0), (Sig.mk 2 [(false, [(AT.a (AV.fz (FV.ifc false)))])] [(OT.g 90 [(AT.a (AV.ptr 0 0 0 0)), (AT.a (AV.ofl 1 2))]), OT.no, (OT.f 5 1)] 0)]), (65, [(Sig.mk 1 [(false, [(AT.k (CK.int .i64))]), (false, [(AT.a (AV.fz (FV.ifc false)))])] [(OT.g 90 [(AT.a (AV.ptr 0 0 0 0)), (AT.a (AV.ofl 1 1))]), (OT.f 5 1)] 0), (Sig.mk 2 [(false, [(AT.k (CK.int .i64))]), (false, [(AT.a (AV.fz (FV.ifc false)))])] [(OT.g 90 [(AT.a (AV.ptr 0 0 0 0)), (AT.a (AV.ofl 1 2))]), OT.no, (OT.f 5 1)] 0)]), (58, [(Sig.mk 1 [] [(OT.g 90 [(AT.a (AV.ptr 0 0 0 0)), (AT.a (AV.ofl 1 1))]), (OT.f 5 1)] 0), (Sig.mk 2 [] [(OT.g 90 [(AT.a (AV.ptr 0 0 0 0)), (AT.a (AV.ofl 1 2))]), OT.no, (OT.f 5 1)] 0)])]) prF_list_lv Tryz.f92 (some 1) R [1, 0, 1, 0] (prF_list_S0 list dotted i es)
def prF_list_R0 (R : TV → List Ob → Prop) (list : List (List FV)) (dotted : Bool) (i : Int) (es : List (List FV)) : Prop :=
  ((((decide (i < (((List.length list) : Nat) : Int))) = true) → (((0 : Int) ≤ i) ∧ (∃ n8 : Int, (∃ s2 : ByteArray, (∃ b2 : Bool, (∃ es25 : List (List FV), (∃ es26 : List (List FV), (∃ n9 : Int, (((list)[(Int.toNat i)]? = (some [(FV.int .i64 n8), (FV.str s2), (FV.bool b2), (FV.sl 1 es25), (FV.sl 6 es26), (FV.int .i64 n9)])) ∧ ((((decide ((0 : Int) < i)) = true) → (∃ es27 : List (List FV), ((Fn Tryz.prog 63 [(TV.one (AV.ptr 0 0 0 90)), (TV.one (AV.fz (FV.int .u8 32)))] [(Ob.g 90 [(AV.ptr 0 0 0 0), (AV.ofl 1 1)]), (Ob.f 5 1 es)] (TV.one (AV.fz (FV.ifc false))) [(Ob.g 90 [(AV.ptr 0 0 0 0), (AV.ofl 1 2)]), Ob.no, (Ob.f 5 1 es27)]) ∧ (((dotted = true) → ((((i == (IntKind.wrap .i64 ((((List.length list) : Nat) : Int) - 1))) = true) → (∃ es28 : List (List FV), (∃ n10 : Int, ((Fn Tryz.prog 65 [(TV.one (AV.ptr 0 0 0 90)), (TV.one (AV.fz (FV.str (ByteArray.mk #[46, 32]))))] [(Ob.g 90 [(AV.ptr 0 0 0 0), (AV.ofl 1 1)]), (Ob.f 5 1 es27)] (TV.tup [(false, [(AV.fz (FV.int .i64 n10))]), (false, [(AV.fz (FV.ifc false))])]) [(Ob.g 90 [(AV.ptr 0 0 0 0), (AV.ofl 1 2)]), Ob.no, (Ob.f 5 1 es28)]) ∧ (∃ es29 : List (List FV), ((Fn Tryz.prog 58 [(TV.one (AV.ptr 0 0 0 90)), (TV.agg [(AV.fz (FV.int .i64 n8)), (AV.fz (FV.str s2)), (AV.fz (FV.bool b2)), (AV.fz (FV.sl 1 es25)), (AV.fz (FV.sl 6 es26)), (AV.fz (FV.int .i64 n9))])] [(Ob.g 90 [(AV.ptr 0 0 0 0), (AV.ofl 1 1)]), (Ob.f 5 1 es28)] (TV.tup []) [(Ob.g 90 [(AV.ptr 0 0 0 0), (AV.ofl 1 2)]), Ob.no, (Ob.f 5 1 es29)]) ∧ (prF_list_L0 R list dotted (IntKind.wrap .i64 (i + 1)) es29))))))) ∧ (((i == (IntKind.wrap .i64 ((((List.length list) : Nat) : Int) - 1))) = false) → (∃ es30 : List (List FV), ((Fn Tryz.prog 58 [(TV.one (AV.ptr 0 0 0 90)), (TV.agg [(AV.fz (FV.int .i64 n8)), (AV.fz (FV.str s2)), (AV.fz (FV.bool b2)), (AV.fz (FV.sl 1 es25)), (AV.fz (FV.sl 6 es26)), (AV.fz (FV.int .i64 n9))])] [(Ob.g 90 [(AV.ptr 0 0 0 0), (AV.ofl 1 1)]), (Ob.f 5 1 es27)] (TV.tup []) [(Ob.g 90 [(AV.ptr 0 0 0 0), (AV.ofl 1 2)]), Ob.no, (Ob.f 5 1 es30)]) ∧ (prF_list_L0 R list dotted (IntKind.wrap .i64 (i + 1)) es30)))))) ∧ ((dotted = false) → (∃ es31 : List (List FV), ((Fn Tryz.prog 58 [(TV.one (AV.ptr 0 0 0 90)), (TV.agg [(AV.fz (FV.int .i64 n8)), (AV.fz (FV.str s2)), (AV.fz (FV.bool b2)), (AV.fz (FV.sl 1 es25)), (AV.fz (FV.sl 6 es26)), (AV.fz (FV.int .i64 n9))])] [(Ob.g 90 [(AV.ptr 0 0 0 0), (AV.ofl 1 1)]), (Ob.f 5 1 es27)] (TV.tup []) [(Ob.g 90 [(AV.ptr 0 0 0 0), (AV.ofl 1 2)]), Ob.no, (Ob.f 5 1 es31)]) ∧ (prF_list_L0 R list dotted (IntKind.wrap .i64 (i + 1)) es31)))))))) ∧ (((decide ((0 : Int) < i)) = false) → (((dotted = true) → ((((i == (IntKind.wrap .i64 ((((List.length list) : Nat) : Int) - 1))) = true) → (∃ es32 : List (List FV), (∃ n11 : Int, ((Fn Tryz.prog 65 [(TV.one (AV.ptr 0 0 0 90)), (TV.one (AV.fz (FV.str (ByteArray.mk #[46, 32]))))] [(Ob.g 90 [(AV.ptr 0 0 0 0), (AV.ofl 1 1)]), (Ob.f 5 1 es)] (TV.tup [(false, [(AV.fz (FV.int .i64 n11))]), (false, [(AV.fz (FV.ifc false))])]) [(Ob.g 90 [(AV.ptr 0 0 0 0), (AV.ofl 1 2)]), Ob.no, (Ob.f 5 1 es32)]) ∧ (∃ es33 : List (List FV), ((Fn Tryz.prog 58 [(TV.one (AV.ptr 0 0 0 90)), (TV.agg [(AV.fz (FV.int .i64 n8)), (AV.fz (FV.str s2)), (AV.fz (FV.bool b2)), (AV.fz (FV.sl 1 es25)), (AV.fz (FV.sl 6 es26)), (AV.fz (FV.int .i64 n9))])] [(Ob.g 90 [(AV.ptr 0 0 0 0), (AV.ofl 1 1)]), (Ob.f 5 1 es32)] (TV.tup []) [(Ob.g 90 [(AV.ptr 0 0 0 0), (AV.ofl 1 2)]), Ob.no, (Ob.f 5 1 es33)]) ∧ (prF_list_L0 R list dotted (IntKind.wrap .i64 (i + 1)) es33))))))) ∧ (((i == (IntKind.wrap .i64 ((((List.length list) : Nat) : Int) - 1))) = false) → (∃ es34 : List (List FV), ((Fn Tryz.prog 58 [(TV.one (AV.ptr 0 0 0 90)), (TV.agg [(AV.fz (FV.int .i64 n8)), (AV.fz (FV.str s2)), (AV.fz (FV.bool b2)), (AV.fz (FV.sl 1 es25)), (AV.fz (FV.sl 6 es26)), (AV.fz (FV.int .i64 n9))])] [(Ob.g 90 [(AV.ptr 0 0 0 0), (AV.ofl 1 1)]), (Ob.f 5 1 es)] (TV.tup []) [(Ob.g 90 [(AV.ptr 0 0 0 0), (AV.ofl 1 2)]), Ob.no, (Ob.f 5 1 es34)]) ∧ (prF_list_L0 R list dotted (IntKind.wrap .i64 (i + 1)) es34)))))) ∧ ((dotted = false) → (∃ es35 : List (List FV), ((Fn Tryz.prog 58 [(TV.one (AV.ptr 0 0 0 90)), (TV.agg [(AV.fz (FV.int .i64 n8)), (AV.fz (FV.str s2)), (AV.fz (FV.bool b2)), (AV.fz (FV.sl 1 es25)), (AV.fz (FV.sl 6 es26)), (AV.fz (FV.int .i64 n9))])] [(Ob.g 90 [(AV.ptr 0 0 0 0), (AV.ofl 1 1)]), (Ob.f 5 1 es)] (TV.tup []) [(Ob.g 90 [(AV.ptr 0 0 0 0), (AV.ofl 1 2)]), Ob.no, (Ob.f 5 1 es35)]) ∧ (prF_list_L0 R list dotted (IntKind.wrap .i64 (i + 1)) es35)))))))))))))))) ∧ (((decide (i < (((List.length list) : Nat) : Int))) = false) → (∃ es36 : List (List FV), ((Fn Tryz.prog 63 [(TV.one (AV.ptr 0 0 0 90)), (TV.one (AV.fz (FV.int .u8 41)))] [(Ob.g 90 [(AV.ptr 0 0 0 0), (AV.ofl 1 1)]), (Ob.f 5 1 es)] (TV.one (AV.fz (FV.ifc false))) [(Ob.g 90 [(AV.ptr 0 0 0 0), (AV.ofl 1 2)]), Ob.no, (Ob.f 5 1 es36)]) ∧ (R (TV.tup []) [(Ob.g 90 [(AV.ptr 0 0 0 0), (AV.ofl 1 1)]), (Ob.f 5 1 es36)])))))
theorem prF_list_l0 {R : TV → List Ob → Prop} {list : List (List FV)} {dotted : Bool} {i : Int} {es : List (List FV)} (h : prF_list_R0 R list dotted i es) : prF_list_L0 R list dotted i es :=
  LoopAt.by_tr (by kernel_rfl) (by kernel_rfl) h
def prF_list_H (R : TV → List Ob → Prop) (list : List (List FV)) (dotted : Bool) : Prop :=
  (∃ es25 : List (List FV), ((Fn Tryz.prog 63 [(TV.one (AV.ptr 0 0 0 90)), (TV.one (AV.fz (FV.int .u8 40)))] [(Ob.g 90 [(AV.fz FV.nilp), (AV.nsl 1)])] (TV.one (AV.fz (FV.ifc false))) [(Ob.g 90 [(AV.ptr 0 0 0 0), (AV.ofl 1 1)]), (Ob.f 5 1 es25)]) ∧ (prF_list_L0 R list dotted 0 es25)))
theorem prF_list_fn (list : List (List FV)) (dotted : Bool) {r : TV} {h : List Ob} (H : prF_list_H (fun r' h' => r' = r ∧ Wk h' h) list dotted) : Fn Tryz.prog 92 [(TV.one (AV.ptr 0 0 0 90)), (TV.one (AV.fz (FV.sl 6 list))), (TV.one (AV.fz (FV.bool dotted)))] [(Ob.g 90 [(AV.fz FV.nilp), (AV.nsl 1)])] r h :=
  Fn.by_trW (M := (modeOf [] [(63, [(Sig.mk 1 [(false, [(AT.a (AV.fz (FV.ifc false)))])] [(OT.g 90 [(AT.a (AV.ptr 0 0 0 0)), (AT.a (AV.ofl 1 1))]), (OT.f 5 1)] 0), (Sig.mk 2 [(false, [(AT.a (AV.fz (FV.ifc false)))])] [(OT.g 90 [(AT.a (AV.ptr 0 0 0 0)), (AT.a (AV.ofl 1 2))]), OT.no, (OT.f 5 1)] 0)]), (65, [(Sig.mk 1 [(false, [(AT.k (CK.int .i64))]), (false, [(AT.a (AV.fz (FV.ifc false)))])] [(OT.g 90 [(AT.a (AV.ptr 0 0 0 0)), (AT.a (AV.ofl 1 1))]), (OT.f 5 1)] 0), (Sig.mk 2 [(false, [(AT.k (CK.int .i64))]), (false, [(AT.a (AV.fz (FV.ifc false)))])] [(OT.g 90 [(AT.a (AV.ptr 0 0 0 0)), (AT.a (AV.ofl 1 2))]), OT.no, (OT.f 5 1)] 0)]), (58, [(Sig.mk 1 [] [(OT.g 90 [(AT.a (AV.ptr 0 0 0 0)), (AT.a (AV.ofl 1 1))]), (OT.f 5 1)] 0), (Sig.mk 2 [] [(OT.g 90 [(AT.a (AV.ptr 0 0 0 0)), (AT.a (AV.ofl 1 2))]), OT.no, (OT.f 5 1)] 0)])])) (lv := prF_list_lv) (own := (some 1)) (F := Tryz.f92) (by kernel_rfl) (by kernel_rfl) (by first | decide | simp) (fun _ _ h => h) (by kernel_rfl) H
def prF_datum_lv : List Nat → Keep := lvOf []
def prF_datum_H (R : TV → List Ob → Prop) (d0 : Int) (d1 : ByteArray) (d2 : Bool) (d3 : List (List FV)) (d4 : List (List FV)) (d5 : Int) : Prop :=
  ((((d0 == 1) = true) → (∃ es12 : List (List FV), ((Fn Tryz.prog 92 [(TV.one (AV.ptr 0 0 0 90)), (TV.one (AV.fz (FV.sl 6 d4))), (TV.one (AV.fz (FV.bool (d0 == 2))))] [(Ob.g 90 [(AV.fz FV.nilp), (AV.nsl 1)])] (TV.tup []) [(Ob.g 90 [(AV.ptr 0 0 0 0), (AV.ofl 1 1)]), (Ob.f 5 1 es12)]) ∧ (R (TV.tup []) [(Ob.g 90 [(AV.ptr 0 0 0 0), (AV.ofl 1 1)]), (Ob.f 5 1 es12)])))) ∧ (((d0 == 1) = false) → ((((d0 == 2) = true) → (∃ es13 : List (List FV), ((Fn Tryz.prog 92 [(TV.one (AV.ptr 0 0 0 90)), (TV.one (AV.fz (FV.sl 6 d4))), (TV.one (AV.fz (FV.bool (d0 == 2))))] [(Ob.g 90 [(AV.fz FV.nilp), (AV.nsl 1)])] (TV.tup []) [(Ob.g 90 [(AV.ptr 0 0 0 0), (AV.ofl 1 1)]), (Ob.f 5 1 es13)]) ∧ (R (TV.tup []) [(Ob.g 90 [(AV.ptr 0 0 0 0), (AV.ofl 1 1)]), (Ob.f 5 1 es13)])))) ∧ (((d0 == 2) = false) → ((((d0 == 3) = true) → (∃ es14 : List (List FV), ((Fn Tryz.prog 63 [(TV.one (AV.ptr 0 0 0 90)), (TV.one (AV.fz (FV.int .u8 35)))] [(Ob.g 90 [(AV.fz FV.nilp), (AV.nsl 1)])] (TV.one (AV.fz (FV.ifc false))) [(Ob.g 90 [(AV.ptr 0 0 0 0), (AV.ofl 1 1)]), (Ob.f 5 1 es14)]) ∧ (∃ es15 : List (List FV), ((Fn Tryz.prog 92 [(TV.one (AV.ptr 0 0 0 90)), (TV.one (AV.fz (FV.sl 6 d4))), (TV.one (AV.fz (FV.bool false)))] [(Ob.g 90 [(AV.ptr 0 0 0 0), (AV.ofl 1 1)]), (Ob.f 5 1 es14)] (TV.tup []) [(Ob.g 90 [(AV.ptr 0 0 0 0), (AV.ofl 1 2)]), Ob.no, (Ob.f 5 1 es15)]) ∧ (R (TV.tup []) [(Ob.g 90 [(AV.ptr 0 0 0 0), (AV.ofl 1 1)]), (Ob.f 5 1 es15)])))))) ∧ (((d0 == 3) = false) → ((((d0 == 4) = true) → (∃ es16 : List (List FV), (∃ n11 : Int, ((Fn Tryz.prog 65 [(TV.one (AV.ptr 0 0 0 90)), (TV.one (AV.fz (FV.str d1)))] [(Ob.g 90 [(AV.fz FV.nilp), (AV.nsl 1)])] (TV.tup [(false, [(AV.fz (FV.int .i64 n11))]), (false, [(AV.fz (FV.ifc false))])]) [(Ob.g 90 [(AV.ptr 0 0 0 0), (AV.ofl 1 1)]), (Ob.f 5 1 es16)]) ∧ (R (TV.tup []) [(Ob.g 90 [(AV.ptr 0 0 0 0), (AV.ofl 1 1)]), (Ob.f 5 1 es16)]))))) ∧ (((d0 == 4) = false) → ((((d0 == 5) = true) → (∃ s3 : ByteArray, ((Fn Tryz.prog 24 [(TV.one (AV.fz (FV.str d1)))] [] (TV.one (AV.fz (FV.str s3))) []) ∧ (∃ es17 : List (List FV), (∃ n12 : Int, ((Fn Tryz.prog 65 [(TV.one (AV.ptr 0 0 0 90)), (TV.one (AV.fz (FV.str s3)))] [(Ob.g 90 [(AV.fz FV.nilp), (AV.nsl 1)])] (TV.tup [(false, [(AV.fz (FV.int .i64 n12))]), (false, [(AV.fz (FV.ifc false))])]) [(Ob.g 90 [(AV.ptr 0 0 0 0), (AV.ofl 1 1)]), (Ob.f 5 1 es17)]) ∧ (R (TV.tup []) [(Ob.g 90 [(AV.ptr 0 0 0 0), (AV.ofl 1 1)]), (Ob.f 5 1 es17)]))))))) ∧ (((d0 == 5) = false) → ((((d0 == 6) = true) → (∃ n13 : Int, (∃ n14 : Int, ((Fn Tryz.prog 64 [(TV.one (AV.fz (FV.str d1)))] [] (TV.tup [(false, [(AV.fz (FV.int .i32 n13))]), (false, [(AV.fz (FV.int .i64 n14))])]) []) ∧ (∃ s4 : ByteArray, (∃ n15 : Int, ((Fn Tryz.prog 93 [(TV.one (AV.fz (FV.int .i64 (IntKind.wrap .i64 n13))))] [] (TV.tup [(false, [(AV.fz (FV.str s4))]), (false, [(AV.fz (FV.int .i64 n15))])]) []) ∧ ((((ByteArray.size (ByteArray.mk #[35, 92])) + (ByteArray.size s4)) ≤ 9223372036854775807) ∧ (∃ es18 : List (List FV), (∃ n16 : Int, ((Fn Tryz.prog 65 [(TV.one (AV.ptr 0 0 0 90)), (TV.one (AV.fz (FV.str ((ByteArray.mk #[35, 92]) ++ s4))))] [(Ob.g 90 [(AV.fz FV.nilp), (AV.nsl 1)])] (TV.tup [(false, [(AV.fz (FV.int .i64 n16))]), (false, [(AV.fz (FV.ifc false))])]) [(Ob.g 90 [(AV.ptr 0 0 0 0), (AV.ofl 1 1)]), (Ob.f 5 1 es18)]) ∧ (R (TV.tup []) [(Ob.g 90 [(AV.ptr 0 0 0 0), (AV.ofl 1 1)]), (Ob.f 5 1 es18)])))))))))))) ∧ (((d0 == 6) = false) → ((((d0 == 7) = true) → (∃ s5 : ByteArray, ((Fn Tryz.prog 94 [(TV.agg [(AV.fz (FV.bool d2)), (AV.fz (FV.sl 1 d3))])] [] (TV.one (AV.fz (FV.str s5))) []) ∧ (∃ es19 : List (List FV), (∃ n17 : Int, ((Fn Tryz.prog 65 [(TV.one (AV.ptr 0 0 0 90)), (TV.one (AV.fz (FV.str s5)))] [(Ob.g 90 [(AV.fz FV.nilp), (AV.nsl 1)])] (TV.tup [(false, [(AV.fz (FV.int .i64 n17))]), (false, [(AV.fz (FV.ifc false))])]) [(Ob.g 90 [(AV.ptr 0 0 0 0), (AV.ofl 1 1)]), (Ob.f 5 1 es19)]) ∧ (R (TV.tup []) [(Ob.g 90 [(AV.ptr 0 0 0 0), (AV.ofl 1 1)]), (Ob.f 5 1 es19)]))))))) ∧ (((d0 == 7) = false) → ((((d0 == 8) = true) → (∃ es20 : List (List FV), (∃ n18 : Int, ((Fn Tryz.prog 65 [(TV.one (AV.ptr 0 0 0 90)), (TV.one (AV.fz (FV.str (ByteArray.mk #[35, 116]))))] [(Ob.g 90 [(AV.fz FV.nilp), (AV.nsl 1)])] (TV.tup [(false, [(AV.fz (FV.int .i64 n18))]), (false, [(AV.fz (FV.ifc false))])]) [(Ob.g 90 [(AV.ptr 0 0 0 0), (AV.ofl 1 1)]), (Ob.f 5 1 es20)]) ∧ (R (TV.tup []) [(Ob.g 90 [(AV.ptr 0 0 0 0), (AV.ofl 1 1)]), (Ob.f 5 1 es20)]))))) ∧ (((d0 == 8) = false) → ((((d0 == 9) = true) → (∃ es21 : List (List FV), (∃ n19 : Int, ((Fn Tryz.prog 65 [(TV.one (AV.ptr 0 0 0 90)), (TV.one (AV.fz (FV.str (ByteArray.mk #[35, 102]))))] [(Ob.g 90 [(AV.fz FV.nilp), (AV.nsl 1)])] (TV.tup [(false, [(AV.fz (FV.int .i64 n19))]), (false, [(AV.fz (FV.ifc false))])]) [(Ob.g 90 [(AV.ptr 0 0 0 0), (AV.ofl 1 1)]), (Ob.f 5 1 es21)]) ∧ (R (TV.tup []) [(Ob.g 90 [(AV.ptr 0 0 0 0), (AV.ofl 1 1)]), (Ob.f 5 1 es21)]))))) ∧ (((d0 == 9) = false) → ((((d0 == 10) = true) → (∃ es22 : List (List FV), (∃ n20 : Int, ((Fn Tryz.prog 65 [(TV.one (AV.ptr 0 0 0 90)), (TV.one (AV.fz (FV.str (ByteArray.mk #[35, 60, 118, 111, 105, 100, 62]))))] [(Ob.g 90 [(AV.fz FV.nilp), (AV.nsl 1)])] (TV.tup [(false, [(AV.fz (FV.int .i64 n20))]), (false, [(AV.fz (FV.ifc false))])]) [(Ob.g 90 [(AV.ptr 0 0 0 0), (AV.ofl 1 1)]), (Ob.f 5 1 es22)]) ∧ (R (TV.tup []) [(Ob.g 90 [(AV.ptr 0 0 0 0), (AV.ofl 1 1)]), (Ob.f 5 1 es22)]))))) ∧ (((d0 == 10) = false) → ((((ByteArray.size (ByteArray.mk #[35, 60])) + (ByteArray.size d1)) ≤ 9223372036854775807) ∧ ((((ByteArray.size ((ByteArray.mk #[35, 60]) ++ d1)) + (ByteArray.size (ByteArray.mk #[62]))) ≤ 9223372036854775807) ∧ (∃ es23 : List (List FV), (∃ n21 : Int, ((Fn Tryz.prog 65 [(TV.one (AV.ptr 0 0 0 90)), (TV.one (AV.fz (FV.str (((ByteArray.mk #[35, 60]) ++ d1) ++ (ByteArray.mk #[62])))))] [(Ob.g 90 [(AV.fz FV.nilp), (AV.nsl 1)])] (TV.tup [(false, [(AV.fz (FV.int .i64 n21))]), (false, [(AV.fz (FV.ifc false))])]) [(Ob.g 90 [(AV.ptr 0 0 0 0), (AV.ofl 1 1)]), (Ob.f 5 1 es23)]) ∧ (R (TV.tup []) [(Ob.g 90 [(AV.ptr 0 0 0 0), (AV.ofl 1 1)]), (Ob.f 5 1 es23)]))))))))))))))))))))))))))
theorem prF_datum_fn (d0 : Int) (d1 : ByteArray) (d2 : Bool) (d3 : List (List FV)) (d4 : List (List FV)) (d5 : Int) {r : TV} {h : List Ob} (H : prF_datum_H (fun r' h' => r' = r ∧ Wk h' h) d0 d1 d2 d3 d4 d5) : Fn Tryz.prog 58 [(TV.one (AV.ptr 0 0 0 90)), (TV.agg [(AV.fz (FV.int .i64 d0)), (AV.fz (FV.str d1)), (AV.fz (FV.bool d2)), (AV.fz (FV.sl 1 d3)), (AV.fz (FV.sl 6 d4)), (AV.fz (FV.int .i64 d5))])] [(Ob.g 90 [(AV.fz FV.nilp), (AV.nsl 1)])] r h :=
  Fn.by_trW (M := (modeOf [] [(63, [(Sig.mk 1 [(false, [(AT.a (AV.fz (FV.ifc false)))])] [(OT.g 90 [(AT.a (AV.ptr 0 0 0 0)), (AT.a (AV.ofl 1 1))]), (OT.f 5 1)] 0), (Sig.mk 2 [(false, [(AT.a (AV.fz (FV.ifc false)))])] [(OT.g 90 [(AT.a (AV.ptr 0 0 0 0)), (AT.a (AV.ofl 1 2))]), OT.no, (OT.f 5 1)] 0)]), (65, [(Sig.mk 1 [(false, [(AT.k (CK.int .i64))]), (false, [(AT.a (AV.fz (FV.ifc false)))])] [(OT.g 90 [(AT.a (AV.ptr 0 0 0 0)), (AT.a (AV.ofl 1 1))]), (OT.f 5 1)] 0), (Sig.mk 2 [(false, [(AT.k (CK.int .i64))]), (false, [(AT.a (AV.fz (FV.ifc false)))])] [(OT.g 90 [(AT.a (AV.ptr 0 0 0 0)), (AT.a (AV.ofl 1 2))]), OT.no, (OT.f 5 1)] 0)]), (92, [(Sig.mk 1 [] [(OT.g 90 [(AT.a (AV.ptr 0 0 0 0)), (AT.a (AV.ofl 1 1))]), (OT.f 5 1)] 0), (Sig.mk 2 [] [(OT.g 90 [(AT.a (AV.ptr 0 0 0 0)), (AT.a (AV.ofl 1 2))]), OT.no, (OT.f 5 1)] 0)])])) (lv := prF_datum_lv) (own := (some 1)) (F := Tryz.f58) (by kernel_rfl) (by kernel_rfl) (by first | decide | simp) (fun _ _ h => h) (by kernel_rfl) H
end Go.Proofs.YtejefchehdifhaaGreatDoor.Ev
end
section
set_option linter.unusedVariables false
namespace Go.Proofs.YtejefchehdifhaaGreatDoor.Ev
open Go
theorem FnC.args {P : Program} {C : Array Value → World → (Ending → World → Prop) → Prop} {E : Ending → Value → Prop} {xs ys : List TV} {h : List Ob} {r : TV} {h' : List Ob} (hl : xs.length = ys.length)
    (hr : ∀ (i : Nat) (x : TV), xs[i]? = some x → ∃ y, ys[i]? = some y ∧ ∀ (w : World) (B : Nat → Prop) (locs : Nat → Option Loc) (v : Value), RT w B locs y v → RT w B locs x v)
    (F : FnC P C E xs h r h') : FnC P C E ys h r h' := by
  intro ext w locs vals H hsz hrep
  refine F ext w locs vals H (by rw [hsz, hl]) (fun i x hi => ?_)
  obtain ⟨y, hy, himp⟩ := hr i x hi
  obtain ⟨v, hv, hv2⟩ := hrep i y hy
  exact ⟨v, hv, himp _ _ _ _ hv2⟩
theorem FnC.ptr1 {P : Program} {C : Array Value → World → (Ending → World → Prop) → Prop} {E : Ending → Value → Prop} {o e c ty : Nat} (ty' : Nat) {xs : List TV} {h : List Ob} {r : TV} {h' : List Ob}
    (F : FnC P C E (.one (.ptr o e c ty) :: xs) h r h') : FnC P C E (.one (.ptr o e c ty') :: xs) h r h' := by
  refine FnC.args (by simp) (fun i x hi => ?_) F
  cases i with
  | zero => cases hi; exact ⟨_, rfl, fun _ _ _ _ h => h⟩
  | succ i => exact ⟨x, hi, fun _ _ _ _ h => h⟩
end Go.Proofs.YtejefchehdifhaaGreatDoor.Ev
end
section
set_option linter.unusedVariables false
set_option maxRecDepth 100000
namespace Go.Proofs.YtejefchehdifhaaGreatDoor.Ev
open Go
def prU_list_lv : List Nat → Keep := lvOf [([0, 1, 0, 1], ⟨28679, 0, [], false, false⟩)]
def prU_list_S0 (list : List (List FV)) (dotted : Bool) (i : Int) (es : List (List FV)) : St := (St.mk [(TV.one (AV.ptr 0 0 0 90)), (TV.one (AV.fz (FV.sl 6 list))), (TV.one (AV.fz (FV.bool dotted))), TV.und, TV.und, TV.und, TV.und, TV.und, TV.und, TV.und, TV.und, TV.und, (TV.one (AV.fz (FV.sl 6 list))), (TV.one (AV.fz (FV.int .i64 (((List.length list) : Nat) : Int)))), (TV.one (AV.fz (FV.int .i64 i))), TV.und, TV.und, TV.und, TV.und, TV.und, TV.und, TV.und, TV.und, TV.und, TV.und, TV.und, TV.und, TV.und, TV.und, TV.und, TV.und, TV.und, TV.und, TV.und, TV.und, TV.und, TV.und, TV.und, TV.und, TV.und, TV.und, TV.und, TV.und, TV.und, TV.und] [(Ob.g 90 [(AV.ptr 0 0 0 0), (AV.ofl 1 2)]), Ob.no, (Ob.f 5 1 es)])
def prU_list_L0 (R : TV → List Ob → Prop) (list : List (List FV)) (dotted : Bool) (i : Int) (es : List (List FV)) : Prop := LoopAt Tryz.prog (modeOf [] [(63, [(Sig.mk 1 [(false, [(AT.a (AV.fz (FV.ifc false)))])] [(OT.g 90 [(AT.a (AV.ptr 0 0 0 0)), (AT.a (AV.ofl 1 1))]), (OT.f 5 1)] 0), (Sig.mk 2 [(false, [(AT.a (AV.fz (FV.ifc false)))])] [(OT.g 90 [(AT.a (AV.ptr 0 0 0 0)), (AT.a (AV.ofl 1 2))]), OT.no, (OT.f 5 1)] 0)]), (65, [(Sig.mk 1 [(false, [(AT.k (CK.int .i64))]), (false, [(AT.a (AV.fz (FV.ifc false)))])] [(OT.g 90 [(AT.a (AV.ptr 0 0 0 0)), (AT.a (AV.ofl 1 1))]), (OT.f 5 1)] 0), (Sig.mk 2 [(false, [(AT.k (CK.int .i64))]), (false, [(AT.a (AV.fz (FV.ifc false)))])] [(OT.g 90 [(AT.a (AV.ptr 0 0 0 0)), (AT.a (AV.ofl 1 2))]), OT.no, (OT.f 5 1)] 0)]), (58, [(Sig.mk 1 [] [(OT.g 90 [(AT.a (AV.ptr 0 0 0 0)), (AT.a (AV.ofl 1 1))]), (OT.f 5 1)] 0), (Sig.mk 2 [] [(OT.g 90 [(AT.a (AV.ptr 0 0 0 0)), (AT.a (AV.ofl 1 2))]), OT.no, (OT.f 5 1)] 0)])]) prU_list_lv Tryz.f92 (some 2) R [1, 0, 1, 0] (prU_list_S0 list dotted i es)
def prU_list_R0 (R : TV → List Ob → Prop) (list : List (List FV)) (dotted : Bool) (i : Int) (es : List (List FV)) : Prop :=
  ((((decide (i < (((List.length list) : Nat) : Int))) = true) → (((0 : Int) ≤ i) ∧ (∃ n8 : Int, (∃ s2 : ByteArray, (∃ b2 : Bool, (∃ es25 : List (List FV), (∃ es26 : List (List FV), (∃ n9 : Int, (((list)[(Int.toNat i)]? = (some [(FV.int .i64 n8), (FV.str s2), (FV.bool b2), (FV.sl 1 es25), (FV.sl 6 es26), (FV.int .i64 n9)])) ∧ ((((decide ((0 : Int) < i)) = true) → (∃ es27 : List (List FV), ((Fn Tryz.prog 63 [(TV.one (AV.ptr 0 0 0 90)), (TV.one (AV.fz (FV.int .u8 32)))] [(Ob.g 90 [(AV.ptr 0 0 0 0), (AV.ofl 1 1)]), (Ob.f 5 1 es)] (TV.one (AV.fz (FV.ifc false))) [(Ob.g 90 [(AV.ptr 0 0 0 0), (AV.ofl 1 2)]), Ob.no, (Ob.f 5 1 es27)]) ∧ (((dotted = true) → ((((i == (IntKind.wrap .i64 ((((List.length list) : Nat) : Int) - 1))) = true) → (∃ es28 : List (List FV), (∃ n10 : Int, ((Fn Tryz.prog 65 [(TV.one (AV.ptr 0 0 0 90)), (TV.one (AV.fz (FV.str (ByteArray.mk #[46, 32]))))] [(Ob.g 90 [(AV.ptr 0 0 0 0), (AV.ofl 1 1)]), (Ob.f 5 1 es27)] (TV.tup [(false, [(AV.fz (FV.int .i64 n10))]), (false, [(AV.fz (FV.ifc false))])]) [(Ob.g 90 [(AV.ptr 0 0 0 0), (AV.ofl 1 2)]), Ob.no, (Ob.f 5 1 es28)]) ∧ (∃ es29 : List (List FV), ((Fn Tryz.prog 58 [(TV.one (AV.ptr 0 0 0 90)), (TV.agg [(AV.fz (FV.int .i64 n8)), (AV.fz (FV.str s2)), (AV.fz (FV.bool b2)), (AV.fz (FV.sl 1 es25)), (AV.fz (FV.sl 6 es26)), (AV.fz (FV.int .i64 n9))])] [(Ob.g 90 [(AV.ptr 0 0 0 0), (AV.ofl 1 1)]), (Ob.f 5 1 es28)] (TV.tup []) [(Ob.g 90 [(AV.ptr 0 0 0 0), (AV.ofl 1 2)]), Ob.no, (Ob.f 5 1 es29)]) ∧ (prU_list_L0 R list dotted (IntKind.wrap .i64 (i + 1)) es29))))))) ∧ (((i == (IntKind.wrap .i64 ((((List.length list) : Nat) : Int) - 1))) = false) → (∃ es30 : List (List FV), ((Fn Tryz.prog 58 [(TV.one (AV.ptr 0 0 0 90)), (TV.agg [(AV.fz (FV.int .i64 n8)), (AV.fz (FV.str s2)), (AV.fz (FV.bool b2)), (AV.fz (FV.sl 1 es25)), (AV.fz (FV.sl 6 es26)), (AV.fz (FV.int .i64 n9))])] [(Ob.g 90 [(AV.ptr 0 0 0 0), (AV.ofl 1 1)]), (Ob.f 5 1 es27)] (TV.tup []) [(Ob.g 90 [(AV.ptr 0 0 0 0), (AV.ofl 1 2)]), Ob.no, (Ob.f 5 1 es30)]) ∧ (prU_list_L0 R list dotted (IntKind.wrap .i64 (i + 1)) es30)))))) ∧ ((dotted = false) → (∃ es31 : List (List FV), ((Fn Tryz.prog 58 [(TV.one (AV.ptr 0 0 0 90)), (TV.agg [(AV.fz (FV.int .i64 n8)), (AV.fz (FV.str s2)), (AV.fz (FV.bool b2)), (AV.fz (FV.sl 1 es25)), (AV.fz (FV.sl 6 es26)), (AV.fz (FV.int .i64 n9))])] [(Ob.g 90 [(AV.ptr 0 0 0 0), (AV.ofl 1 1)]), (Ob.f 5 1 es27)] (TV.tup []) [(Ob.g 90 [(AV.ptr 0 0 0 0), (AV.ofl 1 2)]), Ob.no, (Ob.f 5 1 es31)]) ∧ (prU_list_L0 R list dotted (IntKind.wrap .i64 (i + 1)) es31)))))))) ∧ (((decide ((0 : Int) < i)) = false) → (((dotted = true) → ((((i == (IntKind.wrap .i64 ((((List.length list) : Nat) : Int) - 1))) = true) → (∃ es32 : List (List FV), (∃ n11 : Int, ((Fn Tryz.prog 65 [(TV.one (AV.ptr 0 0 0 90)), (TV.one (AV.fz (FV.str (ByteArray.mk #[46, 32]))))] [(Ob.g 90 [(AV.ptr 0 0 0 0), (AV.ofl 1 1)]), (Ob.f 5 1 es)] (TV.tup [(false, [(AV.fz (FV.int .i64 n11))]), (false, [(AV.fz (FV.ifc false))])]) [(Ob.g 90 [(AV.ptr 0 0 0 0), (AV.ofl 1 2)]), Ob.no, (Ob.f 5 1 es32)]) ∧ (∃ es33 : List (List FV), ((Fn Tryz.prog 58 [(TV.one (AV.ptr 0 0 0 90)), (TV.agg [(AV.fz (FV.int .i64 n8)), (AV.fz (FV.str s2)), (AV.fz (FV.bool b2)), (AV.fz (FV.sl 1 es25)), (AV.fz (FV.sl 6 es26)), (AV.fz (FV.int .i64 n9))])] [(Ob.g 90 [(AV.ptr 0 0 0 0), (AV.ofl 1 1)]), (Ob.f 5 1 es32)] (TV.tup []) [(Ob.g 90 [(AV.ptr 0 0 0 0), (AV.ofl 1 2)]), Ob.no, (Ob.f 5 1 es33)]) ∧ (prU_list_L0 R list dotted (IntKind.wrap .i64 (i + 1)) es33))))))) ∧ (((i == (IntKind.wrap .i64 ((((List.length list) : Nat) : Int) - 1))) = false) → (∃ es34 : List (List FV), ((Fn Tryz.prog 58 [(TV.one (AV.ptr 0 0 0 90)), (TV.agg [(AV.fz (FV.int .i64 n8)), (AV.fz (FV.str s2)), (AV.fz (FV.bool b2)), (AV.fz (FV.sl 1 es25)), (AV.fz (FV.sl 6 es26)), (AV.fz (FV.int .i64 n9))])] [(Ob.g 90 [(AV.ptr 0 0 0 0), (AV.ofl 1 1)]), (Ob.f 5 1 es)] (TV.tup []) [(Ob.g 90 [(AV.ptr 0 0 0 0), (AV.ofl 1 2)]), Ob.no, (Ob.f 5 1 es34)]) ∧ (prU_list_L0 R list dotted (IntKind.wrap .i64 (i + 1)) es34)))))) ∧ ((dotted = false) → (∃ es35 : List (List FV), ((Fn Tryz.prog 58 [(TV.one (AV.ptr 0 0 0 90)), (TV.agg [(AV.fz (FV.int .i64 n8)), (AV.fz (FV.str s2)), (AV.fz (FV.bool b2)), (AV.fz (FV.sl 1 es25)), (AV.fz (FV.sl 6 es26)), (AV.fz (FV.int .i64 n9))])] [(Ob.g 90 [(AV.ptr 0 0 0 0), (AV.ofl 1 1)]), (Ob.f 5 1 es)] (TV.tup []) [(Ob.g 90 [(AV.ptr 0 0 0 0), (AV.ofl 1 2)]), Ob.no, (Ob.f 5 1 es35)]) ∧ (prU_list_L0 R list dotted (IntKind.wrap .i64 (i + 1)) es35)))))))))))))))) ∧ (((decide (i < (((List.length list) : Nat) : Int))) = false) → (∃ es36 : List (List FV), ((Fn Tryz.prog 63 [(TV.one (AV.ptr 0 0 0 90)), (TV.one (AV.fz (FV.int .u8 41)))] [(Ob.g 90 [(AV.ptr 0 0 0 0), (AV.ofl 1 1)]), (Ob.f 5 1 es)] (TV.one (AV.fz (FV.ifc false))) [(Ob.g 90 [(AV.ptr 0 0 0 0), (AV.ofl 1 2)]), Ob.no, (Ob.f 5 1 es36)]) ∧ (R (TV.tup []) [(Ob.g 90 [(AV.ptr 0 0 0 0), (AV.ofl 1 2)]), Ob.no, (Ob.f 5 1 es36)])))))
theorem prU_list_l0 {R : TV → List Ob → Prop} {list : List (List FV)} {dotted : Bool} {i : Int} {es : List (List FV)} (h : prU_list_R0 R list dotted i es) : prU_list_L0 R list dotted i es :=
  LoopAt.by_tr (by kernel_rfl) (by kernel_rfl) h
def prU_list_H (R : TV → List Ob → Prop) (list : List (List FV)) (dotted : Bool) (o : List (List FV)) : Prop :=
  (∃ es25 : List (List FV), ((Fn Tryz.prog 63 [(TV.one (AV.ptr 0 0 0 90)), (TV.one (AV.fz (FV.int .u8 40)))] [(Ob.g 90 [(AV.ptr 0 0 0 0), (AV.ofl 1 1)]), (Ob.f 5 1 o)] (TV.one (AV.fz (FV.ifc false))) [(Ob.g 90 [(AV.ptr 0 0 0 0), (AV.ofl 1 2)]), Ob.no, (Ob.f 5 1 es25)]) ∧ (prU_list_L0 R list dotted 0 es25)))
theorem prU_list_fn (list : List (List FV)) (dotted : Bool) (o : List (List FV)) {r : TV} {h : List Ob} (H : prU_list_H (fun r' h' => r' = r ∧ Wk h' h) list dotted o) : Fn Tryz.prog 92 [(TV.one (AV.ptr 0 0 0 90)), (TV.one (AV.fz (FV.sl 6 list))), (TV.one (AV.fz (FV.bool dotted)))] [(Ob.g 90 [(AV.ptr 0 0 0 0), (AV.ofl 1 1)]), (Ob.f 5 1 o)] r h :=
  Fn.by_trW (M := (modeOf [] [(63, [(Sig.mk 1 [(false, [(AT.a (AV.fz (FV.ifc false)))])] [(OT.g 90 [(AT.a (AV.ptr 0 0 0 0)), (AT.a (AV.ofl 1 1))]), (OT.f 5 1)] 0), (Sig.mk 2 [(false, [(AT.a (AV.fz (FV.ifc false)))])] [(OT.g 90 [(AT.a (AV.ptr 0 0 0 0)), (AT.a (AV.ofl 1 2))]), OT.no, (OT.f 5 1)] 0)]), (65, [(Sig.mk 1 [(false, [(AT.k (CK.int .i64))]), (false, [(AT.a (AV.fz (FV.ifc false)))])] [(OT.g 90 [(AT.a (AV.ptr 0 0 0 0)), (AT.a (AV.ofl 1 1))]), (OT.f 5 1)] 0), (Sig.mk 2 [(false, [(AT.k (CK.int .i64))]), (false, [(AT.a (AV.fz (FV.ifc false)))])] [(OT.g 90 [(AT.a (AV.ptr 0 0 0 0)), (AT.a (AV.ofl 1 2))]), OT.no, (OT.f 5 1)] 0)]), (58, [(Sig.mk 1 [] [(OT.g 90 [(AT.a (AV.ptr 0 0 0 0)), (AT.a (AV.ofl 1 1))]), (OT.f 5 1)] 0), (Sig.mk 2 [] [(OT.g 90 [(AT.a (AV.ptr 0 0 0 0)), (AT.a (AV.ofl 1 2))]), OT.no, (OT.f 5 1)] 0)])])) (lv := prU_list_lv) (own := (some 2)) (F := Tryz.f92) (by kernel_rfl) (by kernel_rfl) (by first | decide | simp) (fun _ _ h => h) (by kernel_rfl) H
def prU_datum_lv : List Nat → Keep := lvOf []
def prU_datum_H (R : TV → List Ob → Prop) (d0 : Int) (d1 : ByteArray) (d2 : Bool) (d3 : List (List FV)) (d4 : List (List FV)) (d5 : Int) (o : List (List FV)) : Prop :=
  ((((d0 == 1) = true) → (∃ es12 : List (List FV), ((Fn Tryz.prog 92 [(TV.one (AV.ptr 0 0 0 90)), (TV.one (AV.fz (FV.sl 6 d4))), (TV.one (AV.fz (FV.bool (d0 == 2))))] [(Ob.g 90 [(AV.ptr 0 0 0 0), (AV.ofl 1 1)]), (Ob.f 5 1 o)] (TV.tup []) [(Ob.g 90 [(AV.ptr 0 0 0 0), (AV.ofl 1 2)]), Ob.no, (Ob.f 5 1 es12)]) ∧ (R (TV.tup []) [(Ob.g 90 [(AV.ptr 0 0 0 0), (AV.ofl 1 2)]), Ob.no, (Ob.f 5 1 es12)])))) ∧ (((d0 == 1) = false) → ((((d0 == 2) = true) → (∃ es13 : List (List FV), ((Fn Tryz.prog 92 [(TV.one (AV.ptr 0 0 0 90)), (TV.one (AV.fz (FV.sl 6 d4))), (TV.one (AV.fz (FV.bool (d0 == 2))))] [(Ob.g 90 [(AV.ptr 0 0 0 0), (AV.ofl 1 1)]), (Ob.f 5 1 o)] (TV.tup []) [(Ob.g 90 [(AV.ptr 0 0 0 0), (AV.ofl 1 2)]), Ob.no, (Ob.f 5 1 es13)]) ∧ (R (TV.tup []) [(Ob.g 90 [(AV.ptr 0 0 0 0), (AV.ofl 1 2)]), Ob.no, (Ob.f 5 1 es13)])))) ∧ (((d0 == 2) = false) → ((((d0 == 3) = true) → (∃ es14 : List (List FV), ((Fn Tryz.prog 63 [(TV.one (AV.ptr 0 0 0 90)), (TV.one (AV.fz (FV.int .u8 35)))] [(Ob.g 90 [(AV.ptr 0 0 0 0), (AV.ofl 1 1)]), (Ob.f 5 1 o)] (TV.one (AV.fz (FV.ifc false))) [(Ob.g 90 [(AV.ptr 0 0 0 0), (AV.ofl 1 2)]), Ob.no, (Ob.f 5 1 es14)]) ∧ (∃ es15 : List (List FV), ((Fn Tryz.prog 92 [(TV.one (AV.ptr 0 0 0 90)), (TV.one (AV.fz (FV.sl 6 d4))), (TV.one (AV.fz (FV.bool false)))] [(Ob.g 90 [(AV.ptr 0 0 0 0), (AV.ofl 1 1)]), (Ob.f 5 1 es14)] (TV.tup []) [(Ob.g 90 [(AV.ptr 0 0 0 0), (AV.ofl 1 2)]), Ob.no, (Ob.f 5 1 es15)]) ∧ (R (TV.tup []) [(Ob.g 90 [(AV.ptr 0 0 0 0), (AV.ofl 1 2)]), Ob.no, (Ob.f 5 1 es15)])))))) ∧ (((d0 == 3) = false) → ((((d0 == 4) = true) → (∃ es16 : List (List FV), (∃ n11 : Int, ((Fn Tryz.prog 65 [(TV.one (AV.ptr 0 0 0 90)), (TV.one (AV.fz (FV.str d1)))] [(Ob.g 90 [(AV.ptr 0 0 0 0), (AV.ofl 1 1)]), (Ob.f 5 1 o)] (TV.tup [(false, [(AV.fz (FV.int .i64 n11))]), (false, [(AV.fz (FV.ifc false))])]) [(Ob.g 90 [(AV.ptr 0 0 0 0), (AV.ofl 1 2)]), Ob.no, (Ob.f 5 1 es16)]) ∧ (R (TV.tup []) [(Ob.g 90 [(AV.ptr 0 0 0 0), (AV.ofl 1 2)]), Ob.no, (Ob.f 5 1 es16)]))))) ∧ (((d0 == 4) = false) → ((((d0 == 5) = true) → (∃ s3 : ByteArray, ((Fn Tryz.prog 24 [(TV.one (AV.fz (FV.str d1)))] [] (TV.one (AV.fz (FV.str s3))) []) ∧ (∃ es17 : List (List FV), (∃ n12 : Int, ((Fn Tryz.prog 65 [(TV.one (AV.ptr 0 0 0 90)), (TV.one (AV.fz (FV.str s3)))] [(Ob.g 90 [(AV.ptr 0 0 0 0), (AV.ofl 1 1)]), (Ob.f 5 1 o)] (TV.tup [(false, [(AV.fz (FV.int .i64 n12))]), (false, [(AV.fz (FV.ifc false))])]) [(Ob.g 90 [(AV.ptr 0 0 0 0), (AV.ofl 1 2)]), Ob.no, (Ob.f 5 1 es17)]) ∧ (R (TV.tup []) [(Ob.g 90 [(AV.ptr 0 0 0 0), (AV.ofl 1 2)]), Ob.no, (Ob.f 5 1 es17)]))))))) ∧ (((d0 == 5) = false) → ((((d0 == 6) = true) → (∃ n13 : Int, (∃ n14 : Int, ((Fn Tryz.prog 64 [(TV.one (AV.fz (FV.str d1)))] [] (TV.tup [(false, [(AV.fz (FV.int .i32 n13))]), (false, [(AV.fz (FV.int .i64 n14))])]) []) ∧ (∃ s4 : ByteArray, (∃ n15 : Int, ((Fn Tryz.prog 93 [(TV.one (AV.fz (FV.int .i64 (IntKind.wrap .i64 n13))))] [] (TV.tup [(false, [(AV.fz (FV.str s4))]), (false, [(AV.fz (FV.int .i64 n15))])]) []) ∧ ((((ByteArray.size (ByteArray.mk #[35, 92])) + (ByteArray.size s4)) ≤ 9223372036854775807) ∧ (∃ es18 : List (List FV), (∃ n16 : Int, ((Fn Tryz.prog 65 [(TV.one (AV.ptr 0 0 0 90)), (TV.one (AV.fz (FV.str ((ByteArray.mk #[35, 92]) ++ s4))))] [(Ob.g 90 [(AV.ptr 0 0 0 0), (AV.ofl 1 1)]), (Ob.f 5 1 o)] (TV.tup [(false, [(AV.fz (FV.int .i64 n16))]), (false, [(AV.fz (FV.ifc false))])]) [(Ob.g 90 [(AV.ptr 0 0 0 0), (AV.ofl 1 2)]), Ob.no, (Ob.f 5 1 es18)]) ∧ (R (TV.tup []) [(Ob.g 90 [(AV.ptr 0 0 0 0), (AV.ofl 1 2)]), Ob.no, (Ob.f 5 1 es18)])))))))))))) ∧ (((d0 == 6) = false) → ((((d0 == 7) = true) → (∃ s5 : ByteArray, ((Fn Tryz.prog 94 [(TV.agg [(AV.fz (FV.bool d2)), (AV.fz (FV.sl 1 d3))])] [] (TV.one (AV.fz (FV.str s5))) []) ∧ (∃ es19 : List (List FV), (∃ n17 : Int, ((Fn Tryz.prog 65 [(TV.one (AV.ptr 0 0 0 90)), (TV.one (AV.fz (FV.str s5)))] [(Ob.g 90 [(AV.ptr 0 0 0 0), (AV.ofl 1 1)]), (Ob.f 5 1 o)] (TV.tup [(false, [(AV.fz (FV.int .i64 n17))]), (false, [(AV.fz (FV.ifc false))])]) [(Ob.g 90 [(AV.ptr 0 0 0 0), (AV.ofl 1 2)]), Ob.no, (Ob.f 5 1 es19)]) ∧ (R (TV.tup []) [(Ob.g 90 [(AV.ptr 0 0 0 0), (AV.ofl 1 2)]), Ob.no, (Ob.f 5 1 es19)]))))))) ∧ (((d0 == 7) = false) → ((((d0 == 8) = true) → (∃ es20 : List (List FV), (∃ n18 : Int, ((Fn Tryz.prog 65 [(TV.one (AV.ptr 0 0 0 90)), (TV.one (AV.fz (FV.str (ByteArray.mk #[35, 116]))))] [(Ob.g 90 [(AV.ptr 0 0 0 0), (AV.ofl 1 1)]), (Ob.f 5 1 o)] (TV.tup [(false, [(AV.fz (FV.int .i64 n18))]), (false, [(AV.fz (FV.ifc false))])]) [(Ob.g 90 [(AV.ptr 0 0 0 0), (AV.ofl 1 2)]), Ob.no, (Ob.f 5 1 es20)]) ∧ (R (TV.tup []) [(Ob.g 90 [(AV.ptr 0 0 0 0), (AV.ofl 1 2)]), Ob.no, (Ob.f 5 1 es20)]))))) ∧ (((d0 == 8) = false) → ((((d0 == 9) = true) → (∃ es21 : List (List FV), (∃ n19 : Int, ((Fn Tryz.prog 65 [(TV.one (AV.ptr 0 0 0 90)), (TV.one (AV.fz (FV.str (ByteArray.mk #[35, 102]))))] [(Ob.g 90 [(AV.ptr 0 0 0 0), (AV.ofl 1 1)]), (Ob.f 5 1 o)] (TV.tup [(false, [(AV.fz (FV.int .i64 n19))]), (false, [(AV.fz (FV.ifc false))])]) [(Ob.g 90 [(AV.ptr 0 0 0 0), (AV.ofl 1 2)]), Ob.no, (Ob.f 5 1 es21)]) ∧ (R (TV.tup []) [(Ob.g 90 [(AV.ptr 0 0 0 0), (AV.ofl 1 2)]), Ob.no, (Ob.f 5 1 es21)]))))) ∧ (((d0 == 9) = false) → ((((d0 == 10) = true) → (∃ es22 : List (List FV), (∃ n20 : Int, ((Fn Tryz.prog 65 [(TV.one (AV.ptr 0 0 0 90)), (TV.one (AV.fz (FV.str (ByteArray.mk #[35, 60, 118, 111, 105, 100, 62]))))] [(Ob.g 90 [(AV.ptr 0 0 0 0), (AV.ofl 1 1)]), (Ob.f 5 1 o)] (TV.tup [(false, [(AV.fz (FV.int .i64 n20))]), (false, [(AV.fz (FV.ifc false))])]) [(Ob.g 90 [(AV.ptr 0 0 0 0), (AV.ofl 1 2)]), Ob.no, (Ob.f 5 1 es22)]) ∧ (R (TV.tup []) [(Ob.g 90 [(AV.ptr 0 0 0 0), (AV.ofl 1 2)]), Ob.no, (Ob.f 5 1 es22)]))))) ∧ (((d0 == 10) = false) → ((((ByteArray.size (ByteArray.mk #[35, 60])) + (ByteArray.size d1)) ≤ 9223372036854775807) ∧ ((((ByteArray.size ((ByteArray.mk #[35, 60]) ++ d1)) + (ByteArray.size (ByteArray.mk #[62]))) ≤ 9223372036854775807) ∧ (∃ es23 : List (List FV), (∃ n21 : Int, ((Fn Tryz.prog 65 [(TV.one (AV.ptr 0 0 0 90)), (TV.one (AV.fz (FV.str (((ByteArray.mk #[35, 60]) ++ d1) ++ (ByteArray.mk #[62])))))] [(Ob.g 90 [(AV.ptr 0 0 0 0), (AV.ofl 1 1)]), (Ob.f 5 1 o)] (TV.tup [(false, [(AV.fz (FV.int .i64 n21))]), (false, [(AV.fz (FV.ifc false))])]) [(Ob.g 90 [(AV.ptr 0 0 0 0), (AV.ofl 1 2)]), Ob.no, (Ob.f 5 1 es23)]) ∧ (R (TV.tup []) [(Ob.g 90 [(AV.ptr 0 0 0 0), (AV.ofl 1 2)]), Ob.no, (Ob.f 5 1 es23)]))))))))))))))))))))))))))
theorem prU_datum_fn (d0 : Int) (d1 : ByteArray) (d2 : Bool) (d3 : List (List FV)) (d4 : List (List FV)) (d5 : Int) (o : List (List FV)) {r : TV} {h : List Ob} (H : prU_datum_H (fun r' h' => r' = r ∧ Wk h' h) d0 d1 d2 d3 d4 d5 o) : Fn Tryz.prog 58 [(TV.one (AV.ptr 0 0 0 90)), (TV.agg [(AV.fz (FV.int .i64 d0)), (AV.fz (FV.str d1)), (AV.fz (FV.bool d2)), (AV.fz (FV.sl 1 d3)), (AV.fz (FV.sl 6 d4)), (AV.fz (FV.int .i64 d5))])] [(Ob.g 90 [(AV.ptr 0 0 0 0), (AV.ofl 1 1)]), (Ob.f 5 1 o)] r h :=
  Fn.by_trW (M := (modeOf [] [(63, [(Sig.mk 1 [(false, [(AT.a (AV.fz (FV.ifc false)))])] [(OT.g 90 [(AT.a (AV.ptr 0 0 0 0)), (AT.a (AV.ofl 1 1))]), (OT.f 5 1)] 0), (Sig.mk 2 [(false, [(AT.a (AV.fz (FV.ifc false)))])] [(OT.g 90 [(AT.a (AV.ptr 0 0 0 0)), (AT.a (AV.ofl 1 2))]), OT.no, (OT.f 5 1)] 0)]), (65, [(Sig.mk 1 [(false, [(AT.k (CK.int .i64))]), (false, [(AT.a (AV.fz (FV.ifc false)))])] [(OT.g 90 [(AT.a (AV.ptr 0 0 0 0)), (AT.a (AV.ofl 1 1))]), (OT.f 5 1)] 0), (Sig.mk 2 [(false, [(AT.k (CK.int .i64))]), (false, [(AT.a (AV.fz (FV.ifc false)))])] [(OT.g 90 [(AT.a (AV.ptr 0 0 0 0)), (AT.a (AV.ofl 1 2))]), OT.no, (OT.f 5 1)] 0)]), (92, [(Sig.mk 1 [] [(OT.g 90 [(AT.a (AV.ptr 0 0 0 0)), (AT.a (AV.ofl 1 1))]), (OT.f 5 1)] 0), (Sig.mk 2 [] [(OT.g 90 [(AT.a (AV.ptr 0 0 0 0)), (AT.a (AV.ofl 1 2))]), OT.no, (OT.f 5 1)] 0)])])) (lv := prU_datum_lv) (own := (some 2)) (F := Tryz.f58) (by kernel_rfl) (by kernel_rfl) (by first | decide | simp) (fun _ _ h => h) (by kernel_rfl) H
end Go.Proofs.YtejefchehdifhaaGreatDoor.Ev
end
section
set_option linter.unusedVariables false
set_option linter.unusedSimpArgs false
namespace Go.Proofs.YtejefchehdifhaaGreatDoor.Ev
open Go
abbrev p1 : TV := .one (.ptr 0 0 0 90)
theorem deR_utfB {c : Int} (hc : scalB c = true) : deR (utfB c) = c := by
  have h := ch1_utfB hc []
  rw [List.append_nil] at h
  rcases de_ch1 (utfB_bytes hc) (utfB_ne c) with ⟨e1, _⟩ | ⟨e1, _⟩
  · rw [h] at e1
    have h2 := (Prod.mk.inj e1).2
    have h3 := utfB_ne c
    exact absurd (List.length_eq_zero_iff.1 (by omega)) h3
  · rw [h] at e1
    exact (Prod.mk.inj e1).1.symm
theorem deR_scal {c : Int} {l : List Int} (hc : scalB c = true) (e : l = utfB c) : scalB (deR l) = true := by rw [e, deR_utfB hc]; exact hc
mutual
theorem txt_good : ∀ (x : Dt), x.ok → x.fit → Bytes x.txt ∧ x.txt.length + 4 ≤ 90 * FV.bulkL x.row
  | .mk k t n l ds a, hok, hf => by
    unfold Dt.ok at hok
    unfold Dt.fit at hf
    obtain ⟨hk, ht, hu, hl, hdl, hds, ha⟩ := hok
    obtain ⟨f1, f6, f7, f4, ff⟩ := hf
    have hb := bs_bytes t
    have hsz := size_bs t
    obtain ⟨t1, t2⟩ := txts_good ds (decide (k = 2)) true hds ff
    have hbl : l.length ≤ FV.bulkE (ints .u32 l) := by
      clear hl hu f7
      induction l with
      | nil => simp
      | cons x l ih => simp only [ints, List.map_cons, FV.bulkE, FV.bulkL, FV.bulk, List.length_cons]; simp only [ints] at ih; omega
    unfold Dt.txt
    simp only [Dt.row, FV.bulkL, FV.bulk]
    refine ⟨?_, ?_⟩
    · repeat' split
      · exact hb
      · exact (quoV_bytes hb).1
      · rename_i c6
        obtain ⟨c, hc, e⟩ := f6 c6
        refine Bytes.append (by intro x hx; simp at hx; omega) (nameL_bytes (deR_scal hc e)).1
      · exact numT_bytes n l
      · intro x hx; simp at hx; omega
      · intro x hx; simp at hx; omega
      · intro x hx; simp at hx; omega
      · exact Bytes.append (Bytes.append (by intro x hx; simp at hx; omega) hb) (by intro x hx; simp at hx; omega)
      · exact Bytes.append (by intro x hx; simp at hx; omega) t1
      · exact Bytes.append (by intro x hx; simp at hx; omega) t1
    · repeat' split
      · omega
      · have := (quoV_bytes hb).2; omega
      · rename_i c6
        obtain ⟨c, hc, e⟩ := f6 c6
        have := (nameL_bytes (deR_scal hc e)).2
        rw [List.length_append]
        simp only [List.length_cons, List.length_nil]; omega
      · rename_i c7
        obtain ⟨n1, n2⟩ := numT_len n l hu (f7 c7)
        omega
      · simp only [List.length_cons, List.length_nil]; omega
      · simp only [List.length_cons, List.length_nil]; omega
      · simp only [List.length_cons, List.length_nil]; omega
      · simp only [List.length_append, List.length_cons, List.length_nil]; omega
      · simp only [List.length_append, List.length_cons, List.length_nil]; omega
      · simp only [List.length_append, List.length_cons, List.length_nil]; omega
theorem txts_good : ∀ (xs : List Dt) (dot first : Bool), Dt.oks xs → Dt.fits xs → Bytes (Dt.txts dot first xs) ∧ (Dt.txts dot first xs).length ≤ 90 * FV.bulkE (Dt.rows xs) + 1
  | [], dot, first, _, _ => by
    unfold Dt.txts
    exact ⟨by intro x hx; simp at hx; omega, by simp⟩
  | x :: xs, dot, first, hok, hf => by
    unfold Dt.oks at hok
    unfold Dt.fits at hf
    obtain ⟨a1, a2⟩ := txt_good x hok.1 hf.1
    obtain ⟨b1, b2⟩ := txts_good xs dot false hok.2 hf.2
    unfold Dt.txts
    simp only [Dt.rows, FV.bulkE]
    refine ⟨?_, ?_⟩
    · refine Bytes.append ?_ (Bytes.append ?_ (Bytes.append a1 b1))
      · split
        · exact Bytes.nil
        · intro x hx; simp at hx; omega
      · split
        · intro x hx; simp at hx; omega
        · exact Bytes.nil
    · have e1 : (if first = true then ([] : List Int) else [32]).length ≤ 1 := by split <;> simp
      have e2 : (if dot = true ∧ xs = [] then ([46, 32] : List Int) else []).length ≤ 2 := by split <;> simp
      simp only [List.length_append]
      omega
end
theorem txts_cons (dot first : Bool) (x : Dt) (xs : List Dt) : Dt.txts dot first (x :: xs) = (if first = true then [] else [32]) ++ ((if dot = true ∧ xs = [] then [46, 32] else []) ++ (x.txt ++ Dt.txts dot false xs)) := by
  conv => lhs; unfold Dt.txts
theorem wbU (c : Int) (l : List Int) (hl : l.length ≤ 99000000) : Fn Tryz.prog 63 [p1, fzI .u8 c] (pU l) (.one (.fz (.ifc false))) (pV (l ++ [c])) := FnC.ptr1 _ (writeByteUP_ok c l (by omega))
theorem wbF (c : Int) : Fn Tryz.prog 63 [p1, fzI .u8 c] pF (.one (.fz (.ifc false))) (pU [c]) := FnC.ptr1 _ (writeByteFP_ok c)
theorem wsU (X l : List Int) (hX : Bytes X) (hx : X.length ≤ 99000000) (hl : l.length ≤ 99000000) : Fn Tryz.prog 65 [p1, .one (.fz (.str (bytesOf X)))] (pU l) (wsR X.length) (pV (l ++ X)) := by
  have := writeStringUP_ok (bytesOf X) l (by rw [bs_of hX]; omega) (by omega)
  rw [bs_of hX] at this
  exact FnC.ptr1 _ this
theorem wsF (X : List Int) (hX : Bytes X) (hx : X.length ≤ 99000000) : Fn Tryz.prog 65 [p1, .one (.fz (.str (bytesOf X)))] pF (wsR X.length) (pU X) := by
  have := writeStringFP_ok (bytesOf X) (by rw [bs_of hX]; omega)
  rw [bs_of hX] at this
  exact FnC.ptr1 _ this
def DatU (x : Dt) : Prop := ∀ out : List Int, out.length + x.txt.length ≤ 98000000 → Fn Tryz.prog 58 [p1, fzD x] (pU out) (.tup []) (pV (out ++ x.txt))
theorem prU_loop (xs : List Dt) (dot : Bool) (R : TV → List Ob → Prop) (hxl : xs.length ≤ 1048576) (hp : ∀ x ∈ xs, DatU x) : ∀ (d j : Nat) (out : List Int), j + d = xs.length →
    out.length + (Dt.txts dot (decide (j = 0)) (xs.drop j)).length ≤ 98000000 → R (.tup []) (pV (out ++ Dt.txts dot (decide (j = 0)) (xs.drop j))) → prU_list_L0 R (Dt.rows xs) dot j (ints .u8 out) := by
  intro d
  induction d with
  | zero =>
    intro j out hj ho hR
    refine prU_list_l0 ?_
    unfold prU_list_R0
    rw [rows_len]
    rw [List.drop_eq_nil_of_le (by omega)] at ho hR
    unfold Dt.txts at ho hR
    refine ⟨fun h => ?_, fun _ => ⟨_, wbU 41 out (by omega), hR⟩⟩
    have := of_decide_eq_true h
    omega
  | succ d ih =>
    intro j out hj ho hR
    refine prU_list_l0 ?_
    unfold prU_list_R0
    rw [rows_len]
    have hlt : j < xs.length := by omega
    rw [List.drop_eq_getElem_cons hlt] at ho hR
    have hg : (Dt.rows xs)[Int.toNat (j : Int)]? = some xs[j].row := by rw [rows_get, Int.toNat_natCast, List.getElem?_eq_getElem hlt]; rfl
    have hpx := hp xs[j] (List.getElem_mem _)
    have hE : ∀ E : List Int, Dt.txts dot (decide (j = 0)) (xs[j] :: xs.drop (j + 1)) = E ++ (xs[j].txt ++ Dt.txts dot false (xs.drop (j + 1))) →
        ∃ es : List (List FV), (Fn Tryz.prog 58 [p1, fzD xs[j]] (pU (out ++ E)) (.tup []) [.g 90 [.ptr 0 0 0 0, .ofl 1 2], .no, .f 5 1 es]) ∧ prU_list_L0 R (Dt.rows xs) dot (IntKind.wrap .i64 ((j : Int) + 1)) es := fun E e => by
      rw [e] at ho hR
      simp only [List.length_append] at ho
      refine ⟨_, hpx (out ++ E) (by rw [List.length_append]; omega), ?_⟩
      rw [w64 (by omega) (by omega)]
      refine ih (j + 1) (out ++ E ++ xs[j].txt) (by omega) ?_ ?_
      · rw [show decide (j + 1 = 0) = false from rfl]
        simp only [List.length_append]; omega
      · rw [show decide (j + 1 = 0) = false from rfl]
        simpa [List.append_assoc] using hR
    have hlast : xs.drop (j + 1) = [] ↔ j + 1 = xs.length := by
      rw [List.drop_eq_nil_iff]; omega
    have e46 : ByteArray.mk #[46, 32] = bytesOf [46, 32] := by decide +kernel
    have b46 : Bytes [46, 32] := by intro x hx; simp at hx; omega
    generalize hx : xs[j] = x at *
    obtain ⟨k, t, n, l, ds, a⟩ := x
    rw [e46, w64 (n := (xs.length : Int) - 1) (by omega) (by omega)]
    refine ⟨fun _ => ⟨by omega, k, t, n, ints .u32 l, Dt.rows ds, a, hg, fun h0 => ?_, fun h0 => ?_⟩, fun h => absurd hlt (by have := of_decide_eq_false h; omega)⟩
    · have j0 : ¬ j = 0 := by have := of_decide_eq_true h0; omega
      refine ⟨_, wbU 32 out (by omega), fun hd => ⟨fun hl => ⟨_, _, wsU [46, 32] (out ++ [32]) b46 (by simp) (by simp; omega), ?_⟩, fun hl => ?_⟩, fun hd => ?_⟩
      · have e := hE ([32] ++ [46, 32]) (by rw [txts_cons, if_neg (by simp [j0]), if_pos ⟨hd, hlast.2 (by simp at hl; omega)⟩]; simp)
        rw [← List.append_assoc] at e
        exact e
      · exact hE [32] (by rw [txts_cons, if_neg (by simp [j0]), if_neg (fun c => by have := hlast.1 c.2; simp at hl; omega)]; simp)
      · exact hE [32] (by rw [txts_cons, if_neg (by simp [j0]), if_neg (fun c => by rw [hd] at c; exact absurd c.1 (by simp))]; simp)
    · have j0 : j = 0 := by have := of_decide_eq_false h0; omega
      refine ⟨fun hd => ⟨fun hl => ⟨_, _, wsU [46, 32] out b46 (by simp) (by omega), ?_⟩, fun hl => ?_⟩, fun hd => ?_⟩
      · exact hE [46, 32] (by rw [txts_cons, if_pos (by simp [j0]), if_pos ⟨hd, hlast.2 (by simp at hl; omega)⟩]; simp)
      · have e := hE [] (by rw [txts_cons, if_pos (by simp [j0]), if_neg (fun c => by have := hlast.1 c.2; simp at hl; omega)]; simp)
        rw [List.append_nil] at e
        exact e
      · have e := hE [] (by rw [txts_cons, if_pos (by simp [j0]), if_neg (fun c => by rw [hd] at c; exact absurd c.1 (by simp))]; simp)
        rw [List.append_nil] at e
        exact e
theorem prF_loop (xs : List Dt) (dot : Bool) (R : TV → List Ob → Prop) (hxl : xs.length ≤ 1048576) (hp : ∀ x ∈ xs, DatU x) : ∀ (d j : Nat) (out : List Int), j + d = xs.length →
    out.length + (Dt.txts dot (decide (j = 0)) (xs.drop j)).length ≤ 98000000 → R (.tup []) (pU (out ++ Dt.txts dot (decide (j = 0)) (xs.drop j))) → prF_list_L0 R (Dt.rows xs) dot j (ints .u8 out) := by
  intro d
  induction d with
  | zero =>
    intro j out hj ho hR
    refine prF_list_l0 ?_
    unfold prF_list_R0
    rw [rows_len]
    rw [List.drop_eq_nil_of_le (by omega)] at ho hR
    unfold Dt.txts at ho hR
    refine ⟨fun h => ?_, fun _ => ⟨_, wbU 41 out (by omega), hR⟩⟩
    have := of_decide_eq_true h
    omega
  | succ d ih =>
    intro j out hj ho hR
    refine prF_list_l0 ?_
    unfold prF_list_R0
    rw [rows_len]
    have hlt : j < xs.length := by omega
    rw [List.drop_eq_getElem_cons hlt] at ho hR
    have hg : (Dt.rows xs)[Int.toNat (j : Int)]? = some xs[j].row := by rw [rows_get, Int.toNat_natCast, List.getElem?_eq_getElem hlt]; rfl
    have hpx := hp xs[j] (List.getElem_mem _)
    have hE : ∀ E : List Int, Dt.txts dot (decide (j = 0)) (xs[j] :: xs.drop (j + 1)) = E ++ (xs[j].txt ++ Dt.txts dot false (xs.drop (j + 1))) →
        ∃ es : List (List FV), (Fn Tryz.prog 58 [p1, fzD xs[j]] (pU (out ++ E)) (.tup []) [.g 90 [.ptr 0 0 0 0, .ofl 1 2], .no, .f 5 1 es]) ∧ prF_list_L0 R (Dt.rows xs) dot (IntKind.wrap .i64 ((j : Int) + 1)) es := fun E e => by
      rw [e] at ho hR
      simp only [List.length_append] at ho
      refine ⟨_, hpx (out ++ E) (by rw [List.length_append]; omega), ?_⟩
      rw [w64 (by omega) (by omega)]
      refine ih (j + 1) (out ++ E ++ xs[j].txt) (by omega) ?_ ?_
      · rw [show decide (j + 1 = 0) = false from rfl]
        simp only [List.length_append]; omega
      · rw [show decide (j + 1 = 0) = false from rfl]
        simpa [List.append_assoc] using hR
    have hlast : xs.drop (j + 1) = [] ↔ j + 1 = xs.length := by
      rw [List.drop_eq_nil_iff]; omega
    have e46 : ByteArray.mk #[46, 32] = bytesOf [46, 32] := by decide +kernel
    have b46 : Bytes [46, 32] := by intro x hx; simp at hx; omega
    generalize hx : xs[j] = x at *
    obtain ⟨k, t, n, l, ds, a⟩ := x
    rw [e46, w64 (n := (xs.length : Int) - 1) (by omega) (by omega)]
    refine ⟨fun _ => ⟨by omega, k, t, n, ints .u32 l, Dt.rows ds, a, hg, fun h0 => ?_, fun h0 => ?_⟩, fun h => absurd hlt (by have := of_decide_eq_false h; omega)⟩
    · have j0 : ¬ j = 0 := by have := of_decide_eq_true h0; omega
      refine ⟨_, wbU 32 out (by omega), fun hd => ⟨fun hl => ⟨_, _, wsU [46, 32] (out ++ [32]) b46 (by simp) (by simp; omega), ?_⟩, fun hl => ?_⟩, fun hd => ?_⟩
      · have e := hE ([32] ++ [46, 32]) (by rw [txts_cons, if_neg (by simp [j0]), if_pos ⟨hd, hlast.2 (by simp at hl; omega)⟩]; simp)
        rw [← List.append_assoc] at e
        exact e
      · exact hE [32] (by rw [txts_cons, if_neg (by simp [j0]), if_neg (fun c => by have := hlast.1 c.2; simp at hl; omega)]; simp)
      · exact hE [32] (by rw [txts_cons, if_neg (by simp [j0]), if_neg (fun c => by rw [hd] at c; exact absurd c.1 (by simp))]; simp)
    · have j0 : j = 0 := by have := of_decide_eq_false h0; omega
      refine ⟨fun hd => ⟨fun hl => ⟨_, _, wsU [46, 32] out b46 (by simp) (by omega), ?_⟩, fun hl => ?_⟩, fun hd => ?_⟩
      · exact hE [46, 32] (by rw [txts_cons, if_pos (by simp [j0]), if_pos ⟨hd, hlast.2 (by simp at hl; omega)⟩]; simp)
      · have e := hE [] (by rw [txts_cons, if_pos (by simp [j0]), if_neg (fun c => by have := hlast.1 c.2; simp at hl; omega)]; simp)
        rw [List.append_nil] at e
        exact e
      · have e := hE [] (by rw [txts_cons, if_pos (by simp [j0]), if_neg (fun c => by rw [hd] at c; exact absurd c.1 (by simp))]; simp)
        rw [List.append_nil] at e
        exact e
theorem prU_list_ok (xs : List Dt) (dot : Bool) (out : List Int) (hxl : xs.length ≤ 1048576) (hp : ∀ x ∈ xs, DatU x) (ho : out.length + 1 + (Dt.txts dot true xs).length ≤ 98000000) :
    Fn Tryz.prog 92 [p1, .one (.fz (.sl 6 (Dt.rows xs))), fzB dot] (pU out) (.tup []) (pV (out ++ (40 :: Dt.txts dot true xs))) := by
  refine prU_list_fn _ _ _ ?_
  unfold prU_list_H
  refine ⟨_, wbU 40 out (by omega), ?_⟩
  exact prU_loop xs dot _ hxl hp xs.length 0 (out ++ [40]) (by omega) (by simp; omega) ⟨rfl, by simpa using Wk.refl _⟩
theorem prF_list_ok (xs : List Dt) (dot : Bool) (hxl : xs.length ≤ 1048576) (hp : ∀ x ∈ xs, DatU x) (ho : 1 + (Dt.txts dot true xs).length ≤ 98000000) :
    Fn Tryz.prog 92 [p1, .one (.fz (.sl 6 (Dt.rows xs))), fzB dot] pF (.tup []) (pU (40 :: Dt.txts dot true xs)) := by
  refine prF_list_fn _ _ ?_
  unfold prF_list_H
  refine ⟨_, wbF 40, ?_⟩
  exact prF_loop xs dot _ hxl hp xs.length 0 [40] (by omega) (by simp; omega) ⟨rfl, by simpa using Wk.refl _⟩
end Go.Proofs.YtejefchehdifhaaGreatDoor.Ev
end
section
set_option linter.unusedVariables false
set_option linter.unusedSimpArgs false
namespace Go.Proofs.YtejefchehdifhaaGreatDoor.Ev
open Go
theorem txt_1 (t : ByteArray) (n : Bool) (l : List Int) (ds : List Dt) (a : Int) : Dt.txt (.mk 1 t n l ds a) = 40 :: Dt.txts false true ds := by
  conv => lhs; unfold Dt.txt
  rfl
theorem txt_2 (t : ByteArray) (n : Bool) (l : List Int) (ds : List Dt) (a : Int) : Dt.txt (.mk 2 t n l ds a) = 40 :: Dt.txts true true ds := by
  conv => lhs; unfold Dt.txt
  rfl
theorem txt_3 (t : ByteArray) (n : Bool) (l : List Int) (ds : List Dt) (a : Int) : Dt.txt (.mk 3 t n l ds a) = 35 :: 40 :: Dt.txts false true ds := by
  conv => lhs; unfold Dt.txt
  rfl
theorem txt_4 (t : ByteArray) (n : Bool) (l : List Int) (ds : List Dt) (a : Int) : Dt.txt (.mk 4 t n l ds a) = bs t := by
  conv => lhs; unfold Dt.txt
  rfl
theorem txt_5 (t : ByteArray) (n : Bool) (l : List Int) (ds : List Dt) (a : Int) : Dt.txt (.mk 5 t n l ds a) = quoV (bs t) := by
  conv => lhs; unfold Dt.txt
  rfl
theorem txt_6 (t : ByteArray) (n : Bool) (l : List Int) (ds : List Dt) (a : Int) : Dt.txt (.mk 6 t n l ds a) = [35, 92] ++ nameL (deR (bs t)) := by
  conv => lhs; unfold Dt.txt
  rfl
theorem txt_7 (t : ByteArray) (n : Bool) (l : List Int) (ds : List Dt) (a : Int) : Dt.txt (.mk 7 t n l ds a) = numT n l := by
  conv => lhs; unfold Dt.txt
  rfl
theorem txt_8 (t : ByteArray) (n : Bool) (l : List Int) (ds : List Dt) (a : Int) : Dt.txt (.mk 8 t n l ds a) = [35, 116] := by
  conv => lhs; unfold Dt.txt
  rfl
theorem txt_9 (t : ByteArray) (n : Bool) (l : List Int) (ds : List Dt) (a : Int) : Dt.txt (.mk 9 t n l ds a) = [35, 102] := by
  conv => lhs; unfold Dt.txt
  rfl
theorem txt_10 (t : ByteArray) (n : Bool) (l : List Int) (ds : List Dt) (a : Int) : Dt.txt (.mk 10 t n l ds a) = [35, 60, 118, 111, 105, 100, 62] := by
  conv => lhs; unfold Dt.txt
  rfl
theorem txt_11 (t : ByteArray) (n : Bool) (l : List Int) (ds : List Dt) (a : Int) : Dt.txt (.mk 11 t n l ds a) = [35, 60] ++ bs t ++ [62] := by
  conv => lhs; unfold Dt.txt
  rfl
theorem small3 : Bytes [35, 116] ∧ Bytes [35, 102] ∧ Bytes [35, 60, 118, 111, 105, 100, 62] := by
  refine ⟨?_, ?_, ?_⟩ <;> (intro x hx; simp at hx; omega)
abbrev pUr (es : List (List FV)) : List Ob := [.g 90 [.ptr 0 0 0 0, .ofl 1 1], .f 5 1 es]
abbrev pVr (es : List (List FV)) : List Ob := [.g 90 [.ptr 0 0 0 0, .ofl 1 2], .no, .f 5 1 es]
theorem prU_leafs (k : Int) (t : ByteArray) (n : Bool) (l : List Int) (ds : List Dt) (a : Int) (out : List Int) (hok : Dt.ok (.mk k t n l ds a)) (hf : Dt.fit (.mk k t n l ds a)) (hall : ∀ x ∈ ds, DatU x) (ho : out.length + (Dt.txt (.mk k t n l ds a)).length ≤ 98000000) :
    Fn Tryz.prog 58 [p1, fzD (.mk k t n l ds a)] (pU out) (.tup []) (pV (out ++ (Dt.mk k t n l ds a).txt)) := by
  unfold Dt.ok at hok
  unfold Dt.fit at hf
  obtain ⟨hk, ht, hu, hl, hdl, hds, ha⟩ := hok
  obtain ⟨f1, f6, f7, f4, ff⟩ := hf
  obtain ⟨T, hT, rfl⟩ : ∃ T, Bytes T ∧ t = bytesOf T := ⟨bs t, bs_bytes t, (of_bs t).symm⟩
  rw [size_of] at ht
  rw [bs_of hT] at f6 f4
  refine prU_datum_fn _ _ _ _ _ _ _ ?_
  obtain ⟨R, hR, hRe⟩ : ∃ R : TV → List Ob → Prop, R (.tup []) (pV (out ++ (Dt.mk k (bytesOf T) n l ds a).txt)) ∧ (fun r' h' => r' = (.tup []) ∧ Wk h' (pV (out ++ (Dt.mk k (bytesOf T) n l ds a).txt))) = R := ⟨_, ⟨rfl, Wk.refl _⟩, rfl⟩
  rw [hRe]; clear hRe
  unfold prU_datum_H
  simp only [beq_t, beq_f]
  have ws : ∀ (X : List Int), Bytes X → out ++ X = out ++ (Dt.mk k (bytesOf T) n l ds a).txt → ∃ es : List (List FV), ∃ m : Int, (Fn Tryz.prog 65 [p1, .one (.fz (.str (bytesOf X)))] (pU out) (.tup [(false, [.fz (.int .i64 m)]), (false, [.fz (.ifc false)])]) (pVr es)) ∧ R (.tup []) (pVr es) := fun X hX e => by
    have hl := congrArg List.length e
    simp only [List.length_append] at hl
    refine ⟨_, _, wsU X out hX (by omega) (by omega), ?_⟩
    rw [e]; exact hR
  refine ⟨fun h => ?_, fun c1 => ⟨fun h => ?_, fun c2 => ⟨fun h => ?_, fun c3 => ⟨fun h => ?_, fun c4 => ⟨fun h => ?_, fun c5 => ⟨fun h => ?_, fun c6 => ⟨fun h => ?_, fun c7 => ⟨fun h => ?_, fun c8 => ⟨fun h => ?_, fun c9 => ⟨fun h => ?_, fun c10 => ?_⟩⟩⟩⟩⟩⟩⟩⟩⟩⟩
  · subst h
    rw [txt_1] at hR ho
    exact ⟨_, prU_list_ok ds false out hdl hall (by simp only [List.length_cons] at ho; omega), hR⟩
  · subst h
    rw [txt_2] at hR ho
    exact ⟨_, prU_list_ok ds true out hdl hall (by simp only [List.length_cons] at ho; omega), hR⟩
  · subst h
    rw [txt_3] at hR ho
    simp only [List.length_cons] at ho
    have hl := prU_list_ok ds false (out ++ [35]) hdl hall (by simp only [List.length_append, List.length_cons, List.length_nil]; omega)
    refine ⟨_, wbU 35 out (by omega), _, hl, ?_⟩
    have e : (out ++ [35]) ++ (40 :: Dt.txts false true ds) = out ++ (35 :: 40 :: Dt.txts false true ds) := by simp
    rw [e]; exact hR
  · subst h
    exact ws T hT (by rw [txt_4, bs_of hT])
  · subst h
    exact ⟨_, pQuoted_ok T hT (by omega), ws _ (quoV_bytes hT).1 (by rw [txt_5, bs_of hT])⟩
  · subst h
    obtain ⟨c, hc, e⟩ := f6 rfl
    have hsc := deR_scal hc e
    obtain ⟨s0, s1, _⟩ := scal_in hsc
    obtain ⟨n1, n2⟩ := nameL_bytes hsc
    refine ⟨_, _, DecodeInString_fn T, ?_⟩
    rw [w64 (n := deR T) (by omega) (by omega), show ByteArray.mk #[35, 92] = bytesOf [35, 92] from by decide +kernel]
    refine ⟨_, _, uName_ok _ hsc, by rw [size_of, size_of]; simp only [List.length_cons, List.length_nil]; omega, ?_⟩
    rw [app_of]
    exact ws _ (Bytes.append (by intro x hx; simp at hx; omega) n1) (by rw [txt_6, bs_of hT])
  · subst h
    have hs := f7 rfl
    have hl64 : l.length ≤ 64 := by
      unfold sndB at hs
      simp only [Bool.and_eq_true, decide_eq_true_eq] at hs
      exact hs.1.1
    exact ⟨_, text_ok n l hu (by omega), ws _ (numT_bytes n l) (by rw [txt_7])⟩
  · subst h
    rw [show ByteArray.mk #[35, 116] = bytesOf [35, 116] from by decide +kernel]
    exact ws _ small3.1 (by rw [txt_8])
  · subst h
    rw [show ByteArray.mk #[35, 102] = bytesOf [35, 102] from by decide +kernel]
    exact ws _ small3.2.1 (by rw [txt_9])
  · subst h
    rw [show ByteArray.mk #[35, 60, 118, 111, 105, 100, 62] = bytesOf [35, 60, 118, 111, 105, 100, 62] from by decide +kernel]
    exact ws _ small3.2.2 (by rw [txt_10])
  · obtain rfl : k = 11 := by omega
    rw [show ByteArray.mk #[35, 60] = bytesOf [35, 60] from by decide +kernel, show ByteArray.mk #[62] = bytesOf [62] from by decide +kernel, app_of, app_of]
    refine ⟨by rw [size_of, size_of]; simp only [List.length_cons, List.length_nil]; omega, by rw [size_of, size_of]; simp only [List.length_append, List.length_cons, List.length_nil]; omega, ?_⟩
    exact ws _ (Bytes.append (Bytes.append (by intro x hx; simp at hx; omega) hT) (by intro x hx; simp at hx; omega)) (by rw [txt_11, bs_of hT])
theorem prF_leafs (k : Int) (t : ByteArray) (n : Bool) (l : List Int) (ds : List Dt) (a : Int) (hok : Dt.ok (.mk k t n l ds a)) (hf : Dt.fit (.mk k t n l ds a)) (hall : ∀ x ∈ ds, DatU x) (ho : (Dt.txt (.mk k t n l ds a)).length ≤ 98000000) :
    Fn Tryz.prog 58 [p1, fzD (.mk k t n l ds a)] pF (.tup []) (pU ((Dt.mk k t n l ds a).txt)) := by
  unfold Dt.ok at hok
  unfold Dt.fit at hf
  obtain ⟨hk, ht, hu, hl, hdl, hds, ha⟩ := hok
  obtain ⟨f1, f6, f7, f4, ff⟩ := hf
  obtain ⟨T, hT, rfl⟩ : ∃ T, Bytes T ∧ t = bytesOf T := ⟨bs t, bs_bytes t, (of_bs t).symm⟩
  rw [size_of] at ht
  rw [bs_of hT] at f6 f4
  refine prF_datum_fn _ _ _ _ _ _ ?_
  obtain ⟨R, hR, hRe⟩ : ∃ R : TV → List Ob → Prop, R (.tup []) (pU ((Dt.mk k (bytesOf T) n l ds a).txt)) ∧ (fun r' h' => r' = (.tup []) ∧ Wk h' (pU ((Dt.mk k (bytesOf T) n l ds a).txt))) = R := ⟨_, ⟨rfl, Wk.refl _⟩, rfl⟩
  rw [hRe]; clear hRe
  unfold prF_datum_H
  simp only [beq_t, beq_f]
  have ws : ∀ (X : List Int), Bytes X → X = (Dt.mk k (bytesOf T) n l ds a).txt → ∃ es : List (List FV), ∃ m : Int, (Fn Tryz.prog 65 [p1, .one (.fz (.str (bytesOf X)))] pF (.tup [(false, [.fz (.int .i64 m)]), (false, [.fz (.ifc false)])]) (pUr es)) ∧ R (.tup []) (pUr es) := fun X hX e => by
    have hl := congrArg List.length e
    skip
    refine ⟨_, _, wsF X hX (by omega), ?_⟩
    rw [e]; exact hR
  refine ⟨fun h => ?_, fun c1 => ⟨fun h => ?_, fun c2 => ⟨fun h => ?_, fun c3 => ⟨fun h => ?_, fun c4 => ⟨fun h => ?_, fun c5 => ⟨fun h => ?_, fun c6 => ⟨fun h => ?_, fun c7 => ⟨fun h => ?_, fun c8 => ⟨fun h => ?_, fun c9 => ⟨fun h => ?_, fun c10 => ?_⟩⟩⟩⟩⟩⟩⟩⟩⟩⟩
  · subst h
    rw [txt_1] at hR ho
    exact ⟨_, prF_list_ok ds false hdl hall (by simp only [List.length_cons] at ho; omega), hR⟩
  · subst h
    rw [txt_2] at hR ho
    exact ⟨_, prF_list_ok ds true hdl hall (by simp only [List.length_cons] at ho; omega), hR⟩
  · subst h
    rw [txt_3] at hR ho
    simp only [List.length_cons] at ho
    have hl := prU_list_ok ds false ([35]) hdl hall (by simp only [List.length_append, List.length_cons, List.length_nil]; omega)
    refine ⟨_, wbF 35, _, hl, ?_⟩
    have e : ([35]) ++ (40 :: Dt.txts false true ds) = (35 :: 40 :: Dt.txts false true ds) := by simp
    rw [e]; exact hR
  · subst h
    exact ws T hT (by rw [txt_4, bs_of hT])
  · subst h
    exact ⟨_, pQuoted_ok T hT (by omega), ws _ (quoV_bytes hT).1 (by rw [txt_5, bs_of hT])⟩
  · subst h
    obtain ⟨c, hc, e⟩ := f6 rfl
    have hsc := deR_scal hc e
    obtain ⟨s0, s1, _⟩ := scal_in hsc
    obtain ⟨n1, n2⟩ := nameL_bytes hsc
    refine ⟨_, _, DecodeInString_fn T, ?_⟩
    rw [w64 (n := deR T) (by omega) (by omega), show ByteArray.mk #[35, 92] = bytesOf [35, 92] from by decide +kernel]
    refine ⟨_, _, uName_ok _ hsc, by rw [size_of, size_of]; simp only [List.length_cons, List.length_nil]; omega, ?_⟩
    rw [app_of]
    exact ws _ (Bytes.append (by intro x hx; simp at hx; omega) n1) (by rw [txt_6, bs_of hT])
  · subst h
    have hs := f7 rfl
    have hl64 : l.length ≤ 64 := by
      unfold sndB at hs
      simp only [Bool.and_eq_true, decide_eq_true_eq] at hs
      exact hs.1.1
    exact ⟨_, text_ok n l hu (by omega), ws _ (numT_bytes n l) (by rw [txt_7])⟩
  · subst h
    rw [show ByteArray.mk #[35, 116] = bytesOf [35, 116] from by decide +kernel]
    exact ws _ small3.1 (by rw [txt_8])
  · subst h
    rw [show ByteArray.mk #[35, 102] = bytesOf [35, 102] from by decide +kernel]
    exact ws _ small3.2.1 (by rw [txt_9])
  · subst h
    rw [show ByteArray.mk #[35, 60, 118, 111, 105, 100, 62] = bytesOf [35, 60, 118, 111, 105, 100, 62] from by decide +kernel]
    exact ws _ small3.2.2 (by rw [txt_10])
  · obtain rfl : k = 11 := by omega
    rw [show ByteArray.mk #[35, 60] = bytesOf [35, 60] from by decide +kernel, show ByteArray.mk #[62] = bytesOf [62] from by decide +kernel, app_of, app_of]
    refine ⟨by rw [size_of, size_of]; simp only [List.length_cons, List.length_nil]; omega, by rw [size_of, size_of]; simp only [List.length_append, List.length_cons, List.length_nil]; omega, ?_⟩
    exact ws _ (Bytes.append (Bytes.append (by intro x hx; simp at hx; omega) hT) (by intro x hx; simp at hx; omega)) (by rw [txt_11, bs_of hT])
mutual
theorem prU_ok : ∀ (x : Dt), x.ok → x.fit → DatU x
  | .mk k t n l ds a, hok, hf => fun out ho => by
    have h1 := hok
    have h2 := hf
    unfold Dt.ok at h1
    unfold Dt.fit at h2
    exact prU_leafs k t n l ds a out hok hf (prU_all ds h1.2.2.2.2.2.1 h2.2.2.2.2) ho
theorem prU_all : ∀ (xs : List Dt), Dt.oks xs → Dt.fits xs → ∀ x ∈ xs, DatU x
  | [], _, _, x, h => by cases h
  | y :: ys, hok, hf, x, h => by
    unfold Dt.oks at hok
    unfold Dt.fits at hf
    have h1 := prU_ok y hok.1 hf.1
    have h2 := prU_all ys hok.2 hf.2
    rcases List.mem_cons.1 h with e | e
    · rw [e]; exact h1
    · exact h2 x e
end
theorem prF_ok (x : Dt) (hok : x.ok) (hf : x.fit) (ho : x.txt.length ≤ 98000000) : Fn Tryz.prog 58 [p1, fzD x] pF (.tup []) (pU x.txt) := by
  obtain ⟨k, t, n, l, ds, a⟩ := x
  have h1 := hok
  have h2 := hf
  unfold Dt.ok at h1
  unfold Dt.fit at h2
  exact prF_leafs k t n l ds a hok hf (prU_all ds h1.2.2.2.2.2.1 h2.2.2.2.2) ho
theorem txt_ne (x : Dt) (hok : x.ok) (hf : x.fit) : x.txt ≠ [] := by
  obtain ⟨k, t, n, l, ds, a⟩ := x
  unfold Dt.ok at hok
  obtain ⟨hk, ht, hu, _⟩ := hok
  unfold Dt.fit at hf
  obtain ⟨f1, f6, f7, f4, ff⟩ := hf
  unfold Dt.txt
  repeat' split
  · rename_i c; exact f4 c
  · unfold quoV; simp
  · simp
  · rename_i c
    unfold numT
    rw [if_pos (f7 c)]
    split
    · simp
    · rename_i c0
      have sn := (sndB_iff hu).1 (f7 c)
      have hv0 := val_nonneg (B := 1000000000) (by omega) sn.lim
      have hv : val 1000000000 l ≠ 0 := fun e => c0 (by rw [(val_zero_iff (by omega) sn.lim sn.norm).1 e]; rfl)
      intro e
      have e2 := (List.append_eq_nil_iff.1 e).2
      have : (digs 10 (val 1000000000 l).toNat).length = 0 := by rw [← tdig_len, e2]; rfl
      have := (digs_nil (B := 10) (by omega) _).1 (List.length_eq_zero_iff.1 this)
      omega
  all_goals simp
theorem printYes_ok (x : Dt) (hok : x.ok) (hs : x.snd = true) (ho : x.txt.length ≤ 98000000) : Fn Tryz.prog 20 [fzD x] [] (.tup [(false, [.fz (.str (bytesOf x.txt))]), (false, [.fz (.int .i64 0)])]) [] := by
  have h1 := readSound_ok x hok
  rw [hs] at h1
  have hf := fit_of_snd hs
  have h2 := prF_ok x hok hf ho
  have h3 := stringUP_ok x.txt (txt_ne x hok hf) (txt_good x hok hf).1 (by omega)
  obtain ⟨R, hR, hRe⟩ := exR (.tup [(false, [.fz (.str (bytesOf x.txt))]), (false, [.fz (.int .i64 0)])])
  generalize hX : x.txt = X at *
  obtain ⟨k, t, n, l, ds, a⟩ := x
  refine print_Print_fn _ _ _ _ _ _ ?_
  rw [hRe]
  unfold print_Print_H
  exact ⟨_, h1, fun h => absurd h (by decide), fun _ => ⟨_, FnC.ptr1 0 h2, _, _, h3, hR⟩⟩
end Go.Proofs.YtejefchehdifhaaGreatDoor.Ev
end
section
set_option linter.unusedVariables false
set_option maxRecDepth 100000
namespace Go.Proofs.YtejefchehdifhaaGreatDoor.Ev
open Go
def law05_answers_lv : List Nat → Keep := lvOf []
def law05_answers_H (R : TV → List Ob → Prop)  : Prop :=
  (∃ s1 : ByteArray, (∃ n1 : Int, ((Fn Tryz.prog 20 [(TV.agg [(AV.fz (FV.int .i64 1)), (AV.fz (FV.str (ByteArray.mk #[]))), (AV.fz (FV.bool false)), (AV.fz (FV.sl 1 ([] : List (List FV)))), (AV.fz (FV.sl 6 [[(FV.int .i64 4), (FV.str (ByteArray.mk #[97])), (FV.bool false), (FV.sl 1 ([] : List (List FV))), (FV.sl 6 ([] : List (List FV))), (FV.int .i64 0)]])), (AV.fz (FV.int .i64 0))])] [] (TV.tup [(false, [(AV.fz (FV.str s1))]), (false, [(AV.fz (FV.int .i64 n1))])]) []) ∧ ((((n1 == 0) = true) → (R (TV.one (AV.fz (FV.bool ((ByteArray.toList s1) == (ByteArray.toList (ByteArray.mk #[40, 97, 41])))))) [])) ∧ (((n1 == 0) = false) → (R (TV.one (AV.fz (FV.bool false))) []))))))
theorem law05_answers_fn  {r : TV} {h : List Ob} (H : law05_answers_H (fun r' h' => r' = r ∧ h' = h) ) : Fn Tryz.prog 19 [] [] r h :=
  Fn.by_tr (M := (modeOf [] [])) (lv := law05_answers_lv) (own := none) (F := Tryz.f19) (by kernel_rfl) (by kernel_rfl) (by first | decide | simp) (fun _ _ h => h) (by kernel_rfl) H
end Go.Proofs.YtejefchehdifhaaGreatDoor.Ev
end
section
set_option linter.unusedVariables false
set_option linter.unusedSimpArgs false
namespace Go.Proofs.YtejefchehdifhaaGreatDoor.Ev
open Go
def listA : Dt := .mk 1 (bytesOf []) false [] [.mk 4 (bytesOf [97]) false [] [] 0] 0
theorem listA_ok : listA.ok := by
  unfold listA
  simp only [Dt.ok, Dt.oks, size_of, I64, U32, Lim]
  simp
theorem listA_snd : listA.snd = true := by decide +kernel
theorem listA_txt : listA.txt = [40, 97, 41] := by decide +kernel
theorem answers5_ok : Fn Tryz.prog 19 [] [] (fzB true) [] := by
  refine law05_answers_fn ?_
  unfold law05_answers_H
  have h := printYes_ok listA listA_ok listA_snd (by rw [listA_txt]; simp)
  rw [listA_txt] at h
  rw [show ByteArray.mk #[40, 97, 41] = bytesOf [40, 97, 41] from by decide +kernel, show ByteArray.mk #[97] = bytesOf [97] from by decide +kernel, show ByteArray.mk #[] = bytesOf [] from by decide +kernel]
  exact ⟨_, _, h, fun _ => ⟨by simp, rfl⟩, fun h => absurd h (by decide)⟩
end Go.Proofs.YtejefchehdifhaaGreatDoor.Ev
end
section
set_option linter.unusedVariables false
set_option maxRecDepth 100000
namespace Go.Proofs.YtejefchehdifhaaGreatDoor.Ev
open Go
def law05_PrintQuotes_lv : List Nat → Keep := lvOf []
def law05_PrintQuotes_H (R : TV → List Ob → Prop) (s : ByteArray) : Prop :=
  (∃ b1 : Bool, ((Fn Tryz.prog 19 [] [] (TV.one (AV.fz (FV.bool b1))) []) ∧ (((b1 = true) → (∃ s3 : ByteArray, ((Fn Tryz.prog 24 [(TV.one (AV.fz (FV.str s)))] [] (TV.one (AV.fz (FV.str s3))) []) ∧ (∃ s4 : ByteArray, ((Fn Tryz.prog 25 [(TV.one (AV.fz (FV.str s)))] [] (TV.one (AV.fz (FV.str s4))) []) ∧ (R (TV.one (AV.fz (FV.bool ((ByteArray.toList s3) == (ByteArray.toList s4))))) [])))))) ∧ ((b1 = false) → (R (TV.one (AV.fz (FV.bool false))) [])))))
theorem law05_PrintQuotes_fn (s : ByteArray) {r : TV} {h : List Ob} (H : law05_PrintQuotes_H (fun r' h' => r' = r ∧ h' = h) s) : Fn Tryz.prog 6 [(TV.one (AV.fz (FV.str s)))] [] r h :=
  Fn.by_tr (M := (modeOf [] [])) (lv := law05_PrintQuotes_lv) (own := none) (F := Tryz.f6) (by kernel_rfl) (by kernel_rfl) (by first | decide | simp) (fun _ _ h => h) (by kernel_rfl) H
end Go.Proofs.YtejefchehdifhaaGreatDoor.Ev
end
section
set_option linter.unusedVariables false
namespace Go.Proofs.YtejefchehdifhaaGreatDoor.Ev
open Go
theorem law_PrintQuotes (xs : List TV) (h : TyAll Tryz.prog [9] xs) (hb : bulkA xs ≤ 1048576) : Fn Tryz.prog 6 xs [] (.one (.fz (.bool true))) [] := by
  cases h with
  | cons h1 h =>
  cases h
  obtain ⟨s, rfl, hs⟩ := tyV_str h1 Tryz.underlying9
  obtain ⟨T, hT, rfl⟩ : ∃ T, Bytes T ∧ s = bytesOf T := ⟨bs s, bs_bytes s, (of_bs s).symm⟩
  simp only [bulkA, TV.bulk, FV.bulk, size_of] at hb
  refine law05_PrintQuotes_fn _ ?_
  obtain ⟨R, hR, hRe⟩ := exR (fzB true); rw [hRe]; clear hRe
  unfold law05_PrintQuotes_H
  refine ⟨_, answers5_ok, fun _ => ⟨_, pQuoted_ok T hT (by omega), _, rQuoted_ok T hT (by omega), ?_⟩, fun h => absurd h (by decide)⟩
  rw [show ((bytesOf (quoV T)).toList == (bytesOf (quoV T)).toList) = true by simp]
  exact hR
end Go.Proofs.YtejefchehdifhaaGreatDoor.Ev
end
section
set_option linter.unusedVariables false
namespace Go.Proofs.YtejefchehdifhaaGreatDoor.printQuotes
open Go.ChangeShapes Go.WideShapes Go.ChangeAt Go.RowKit Go.Joins
open Go.Proofs.YtejefchehdifhaaGreatDoor.Ev (Ty TyAll TabAt Glob tabs closedB openedAll trodAll_below tabAt_ints_of tabAt_ifc_of tabAt_flat_of law_PrintQuotes returnsIn_upto witness_upto)
theorem own : ownKnob Tryz.prog.godebug = none := by kernel_rfl
theorem laidOut : laidOutB Tryz.prog = true := by kernel_rfl
set_option maxRecDepth 100000 in
theorem door_met (os : Os) (args : Array Value) : laidMetH Tryz.prog Rows.printQuotesUptoRow.laid ((World.laidAll Tryz.prog os Rows.printQuotesUptoRow.laid).forCall (fun _ _ => 0) ⟨#[], args, []⟩).memory :=
  Eq.mp (show laidMet Tryz.prog Rows.printQuotesUptoRow.laid ((World.laidAll Tryz.prog os Rows.printQuotesUptoRow.laid).forCall (fun _ _ => 0) ⟨#[], args, []⟩).memory = laidMetH Tryz.prog Rows.printQuotesUptoRow.laid ((World.laidAll Tryz.prog os Rows.printQuotesUptoRow.laid).forCall (fun _ _ => 0) ⟨#[], args, []⟩).memory by kernel_rfl) (laidMet_laidAll (os := os) args (by kernel_rfl) (by kernel_rfl))
set_option maxRecDepth 100000 in
theorem glob {W : World} (hL : laidMetH Tryz.prog Rows.printQuotesUptoRow.laid W) : Glob W := by
  have hM : laidMet Tryz.prog Rows.printQuotesUptoRow.laid W := Eq.mp (by kernel_rfl) hL
  intro x hx
  simp only [tabs, List.mem_cons, List.mem_nil_iff, or_false] at hx
  rcases hx with rfl | rfl | rfl | rfl | rfl | rfl | rfl
  · exact tabAt_flat_of (n := "marginalia/utf.names") (d := Rows.laid_marginalia_utf_names) (fs := [Go.Proofs.YtejefchehdifhaaGreatDoor.Ev.FV.int .i64 32, Go.Proofs.YtejefchehdifhaaGreatDoor.Ev.FV.str (ByteArray.mk #[115, 112, 97, 99, 101]), Go.Proofs.YtejefchehdifhaaGreatDoor.Ev.FV.int .i64 10, Go.Proofs.YtejefchehdifhaaGreatDoor.Ev.FV.str (ByteArray.mk #[110, 101, 119, 108, 105, 110, 101]), Go.Proofs.YtejefchehdifhaaGreatDoor.Ev.FV.int .i64 9, Go.Proofs.YtejefchehdifhaaGreatDoor.Ev.FV.str (ByteArray.mk #[116, 97, 98]), Go.Proofs.YtejefchehdifhaaGreatDoor.Ev.FV.int .i64 13, Go.Proofs.YtejefchehdifhaaGreatDoor.Ev.FV.str (ByteArray.mk #[114, 101, 116, 117, 114, 110]), Go.Proofs.YtejefchehdifhaaGreatDoor.Ev.FV.int .i64 0, Go.Proofs.YtejefchehdifhaaGreatDoor.Ev.FV.str (ByteArray.mk #[110, 117, 108, 108]), Go.Proofs.YtejefchehdifhaaGreatDoor.Ev.FV.int .i64 127, Go.Proofs.YtejefchehdifhaaGreatDoor.Ev.FV.str (ByteArray.mk #[100, 101, 108, 101, 116, 101])]) (m := 8) hM (by kernel_rfl) (List.mem_of_getElem? (i := 6) (by kernel_rfl)) (g := 1) (t := 159) (by kernel_rfl) (by kernel_rfl) (by kernel_rfl)
  · exact tabAt_flat_of (n := "unicode/utf8.first") (d := Rows.laid_unicode_utf8_first) (fs := (List.range 256).map fun c => Go.Proofs.YtejefchehdifhaaGreatDoor.Ev.FV.int .u8 ((Go.Lib.firstT c : Nat) : Int)) (m := 8) hM (by kernel_rfl) (List.mem_of_getElem? (i := 7) (by kernel_rfl)) (g := 2) (t := 163) (by kernel_rfl) (by kernel_rfl) (by kernel_rfl)
  · exact tabAt_flat_of (n := "unicode/utf8.acceptRanges") (d := Rows.laid_unicode_utf8_acceptRanges) (fs := ((List.range 16).map fun i => [Go.Proofs.YtejefchehdifhaaGreatDoor.Ev.FV.int .u8 ((Go.Lib.accLo i : Nat) : Int), Go.Proofs.YtejefchehdifhaaGreatDoor.Ev.FV.int .u8 ((Go.Lib.accHi i : Nat) : Int)]).flatten) (m := 8) hM (by kernel_rfl) (List.mem_of_getElem? (i := 3) (by kernel_rfl)) (g := 3) (t := 167) (by kernel_rfl) (by kernel_rfl) (by kernel_rfl)
  · exact tabAt_ifc_of (n := "strconv.ErrSyntax") (d := Rows.laid_strconv_ErrSyntax) hM (by kernel_rfl) (List.mem_of_getElem? (i := 5) (by kernel_rfl)) (g := 4) (t := 97) (by kernel_rfl) (by kernel_rfl) Tryz.underlying97
  · exact tabAt_ifc_of (n := "strconv.ErrRange") (d := Rows.laid_strconv_ErrRange) hM (by kernel_rfl) (List.mem_of_getElem? (i := 4) (by kernel_rfl)) (g := 5) (t := 97) (by kernel_rfl) (by kernel_rfl) Tryz.underlying97
  · exact tabAt_flat_of (n := "internal/strconv.uint64pow10") (d := Rows.laid_internal_strconv_uint64pow10) (fs := (List.range 20).map fun i => Go.Proofs.YtejefchehdifhaaGreatDoor.Ev.FV.int .u64 ((10 ^ i : Nat) : Int)) (m := 8) hM (by kernel_rfl) (List.mem_of_getElem? (i := 2) (by kernel_rfl)) (g := 7) (t := 202) (by kernel_rfl) (by kernel_rfl) (by kernel_rfl)
  · exact tabAt_flat_of (n := "math/bits.deBruijn64tab") (d := Rows.laid_math_bits_deBruijn64tab) (fs := [0, 1, 56, 2, 57, 49, 28, 3, 61, 58, 42, 50, 38, 29, 17, 4, 62, 47, 59, 36, 45, 43, 51, 22, 53, 39, 33, 30, 24, 18, 12, 5, 63, 55, 48, 27, 60, 41, 37, 16, 46, 35, 44, 21, 52, 32, 23, 11, 54, 26, 40, 15, 34, 20, 31, 10, 25, 14, 19, 9, 13, 8, 7, 6].map fun i => Go.Proofs.YtejefchehdifhaaGreatDoor.Ev.FV.int .u8 i) (m := 8) hM (by kernel_rfl) (List.mem_of_getElem? (i := 1) (by kernel_rfl)) (g := 9) (t := 212) (by kernel_rfl) (by kernel_rfl) (by kernel_rfl)
set_option maxRecDepth 100000 in
theorem lifted (os : Os) (started : os.Started) (H : Type) (enc : TypeId × Value → H) :
    ReturnsInHanded {} Tryz.checked os 6 .any (fun w args => ((Rows.OpenSpec.upto Rows.printQuotesSpec).pre enc Tryz.prog Tryz.f6 Rows.printQuotesUptoRow.domain false w args ∧ laidMetH Tryz.prog Rows.printQuotesUptoRow.laid w) ∧ sizedMet enc Tryz.prog Tryz.f6 (Rows.OpenSpec.upto Rows.printQuotesSpec) false w args)
      (Rows.printQuotesSpec.post enc Tryz.prog Tryz.f6 false true false false) := by
  refine returnsIn_upto (C := Tryz.checked) (X := fun w _ => laidMetH Tryz.prog Rows.printQuotesUptoRow.laid w) (fun _ _ _ hh h => h.of_heap hh) own started (by kernel_rfl) Tryz.func6
    (witness_upto (enc := enc) (C := Tryz.checked) (os := os) (s := Rows.printQuotesSpec) (X := fun w _ => laidMetH Tryz.prog Rows.printQuotesUptoRow.laid w) (World.laidAll Tryz.prog os Rows.printQuotesUptoRow.laid) #[.string ByteArray.empty] 8 (World.laidAll_os _ _ _) (World.shaped_of_ZipB (by kernel_rfl) (by kernel_rfl)) (by kernel_rfl) (by kernel_rfl) (by kernel_rfl) (door_met os _)) ?_
  intro W base args ds gs before hval0 hW hcnd hbk hsz0 hL
  have hsz : (DataW.weightsEach Tryz.prog (Tryz.f6.params.toList ++ Rows.printQuotesSpec.plain.varTypes Tryz.prog) (ds ++ gs)).all (· ≤ reachBytes) = true := hsz0
  have hval : ∀ (j : Nat) t v, Tryz.f6.params[j]? = some t → args[j]? = some v → Value.okWide Tryz.prog W .any base t v := hval0
  have hW' := hW
  obtain ⟨p, q, hA0, hV, rfl, hfz, hnd⟩ := hW
  have hA : DataW.TrodAll enc Tryz.prog W 0 (fun _ => true) true Tryz.f6.params.toList args.toList ds p := hA0
  rw [Tryz.params6] at hA hval hsz
  obtain ⟨rfl, rfl⟩ := trodVars_none hV
  have hA2 := hA
  obtain ⟨v0, vs0, d0, ds0, p0, q0, hargs, rfl, rfl, h0_, r0⟩ := trodAll_cons hA2
  obtain ⟨rfl, rfl, rfl⟩ := trodAll_nil r0
  obtain ⟨xs, h1, h2, h3, hb⟩ := openedAll (S := [9]) (ts := [9]) (by kernel_rfl) (by decide) (fun j t v ht hv => hval j t v (by simpa using ht) (by simpa using hv)) hA (fun m hm => by simpa using List.all_eq_true.1 hsz m hm)
  refine ((law_PrintQuotes xs h1 (Nat.le_trans hb hbk)).door (glob hL) (by simpa using h2) (fun i x hx => by obtain ⟨v, hv, hr⟩ := h3 i x hx; exact ⟨v, by simpa using hv, hr⟩)).mono fun e W' ⟨he, bel⟩ => ?_
  subst he
  exact ⟨_, rfl, _, _, _, [], _, [], hW', trodAll_mk1 (shut_bool Tryz.underlying4 _), trodAll_below laidOut bel (ts := [9]) (by decide +kernel) hA, rfl, bel.frame _, fun h => by cases h⟩
theorem over : Rows.printQuotesUptoRow.holds Tryz.pinned (Rows.OpenSpec.upto Rows.printQuotesSpec) :=
  OpenClaim.holds_of_cond 6 Tryz.f6 rfl rfl rfl rfl rfl rfl rfl ⟨rfl, rfl, rfl, rfl, rfl⟩ rfl rfl rfl rfl rfl (by kernel_rfl) Tryz.func6 (by kernel_rfl)
    (of_decide_eq_true (by kernel_rfl)) (by unfold Func.isWrapper; first | (rw [if_pos (by decide +kernel)]; kernel_rfl) | (rw [if_neg (by decide +kernel)]; exact ⟨rfl, rfl⟩))
    (fun os started H enc _ _ => lifted os started H enc)
theorem proved : Rows.PrintQuotesUptoCardSaid :=
  Claim7.holds_tied_plain_at .later [] [.data, .data, .data, .data, .sentinel, .sentinel, .data, .pinned] true (true, "b7fd62ea3e1cb0ae30951ff2f781820105a8fe0c0743b841a15bd4ce99226292") true
    over (fun _ h => by cases h) (by kernel_rfl) (fun _ h => by cases h) printQuotesUpto_row_tie rfl ⟨rfl, rfl⟩ (by kernel_rfl) rfl
    (fun f fn hf hfn => by
      obtain rfl : f = 6 := Option.some.inj ((show Tryz.prog.funcNamed "marginalia/marginalialaw05.PrintQuotes" = some 6 by kernel_rfl).symm.trans hf) |>.symm
      obtain rfl : fn = Tryz.f6 := (Option.some.inj (Tryz.func6.symm.trans hfn)).symm
      exact ⟨by kernel_rfl, fun j t ht => by
        rw [Tryz.params6] at ht
        have hm : t ∈ [9] := by simpa using Array.mem_of_getElem? ht
        have hall : ([9].all fun u => !Tryz.prog.wantsStandIn u) = true := by kernel_rfl
        exact (show Tryz.prog.wantsStandIn t = false by simpa using List.all_eq_true.1 hall t hm)⟩)
    (by kernel_rfl)
end Go.Proofs.YtejefchehdifhaaGreatDoor.printQuotes
namespace Go.Proofs.YtejefchehdifhaaGreatDoor
theorem printQuotesUpto_holds : Rows.PrintQuotesUptoCardSaid := printQuotes.proved
end Go.Proofs.YtejefchehdifhaaGreatDoor
end
