/-
 Part of a claim: definitions and lemmas that its theorem leans on, packed by wip/tools/pack.py.
-/
import Derived.Test.YtenkkekooimpjaaGreatDoorZS9
set_option linter.unusedVariables false
set_option linter.unusedSimpArgs false
section
set_option linter.unusedVariables false
set_option maxRecDepth 100000
namespace Go.Proofs.YtenkkekooimpjaaGreatDoor.Ev
open Go
section
def utf_Scalar_lv : List Nat → Keep := lvOf []
def utf_Scalar_H (R : TV → List Ob → Prop) (c : Int) : Prop :=
 ((((decide ((0 : Int) ≤ c)) = true) → ((((decide (c ≤ 1114111)) = true) → (∃ b1 : Bool, ((Fn Tryz.prog 100 [(TV.one (AV.fz (FV.int .i32 (IntKind.wrap .i32 c))))] [] (TV.one (AV.fz (FV.bool b1))) []) ∧ (R (TV.one (AV.fz (FV.bool b1))) [])))) ∧ (((decide (c ≤ 1114111)) = false) → (R (TV.one (AV.fz (FV.bool false))) [])))) ∧ (((decide ((0 : Int) ≤ c)) = false) → (R (TV.one (AV.fz (FV.bool false))) [])))
theorem utf_Scalar_fn (c : Int) {r : TV} {h : List Ob} (H : utf_Scalar_H (fun r' h' => r' = r ∧ h' = h) c) : Fn Tryz.prog 64 [(TV.one (AV.fz (FV.int .i64 c)))] [] r h :=
 Fn.by_tr (M := (modeOf [] [])) (lv := utf_Scalar_lv) (own := none) (F := Tryz.f64) (by kernel_rfl) (by kernel_rfl) (by first | decide | simp) (fun _ _ h => h) (by kernel_rfl) H
def utf_Named_lv : List Nat → Keep := lvOf [([0, 1, 0, 1], ⟨12289, 0, [], false, false⟩)]
def utf_Named_S0 (s : ByteArray) (i : Int) : St := (St.mk [(TV.one (AV.fz (FV.str s))), TV.und, TV.und, TV.und, TV.und, TV.und, TV.und, TV.und, TV.und, TV.und, TV.und, TV.und, (TV.agg [(AV.fz (FV.int .i64 32)), (AV.fz (FV.str (ByteArray.mk #[115, 112, 97, 99, 101]))), (AV.fz (FV.int .i64 10)), (AV.fz (FV.str (ByteArray.mk #[110, 101, 119, 108, 105, 110, 101]))), (AV.fz (FV.int .i64 9)), (AV.fz (FV.str (ByteArray.mk #[116, 97, 98]))), (AV.fz (FV.int .i64 13)), (AV.fz (FV.str (ByteArray.mk #[114, 101, 116, 117, 114, 110]))), (AV.fz (FV.int .i64 0)), (AV.fz (FV.str (ByteArray.mk #[110, 117, 108, 108]))), (AV.fz (FV.int .i64 127)), (AV.fz (FV.str (ByteArray.mk #[100, 101, 108, 101, 116, 101])))]), (TV.one (AV.fz (FV.int .i64 i))), TV.und, TV.und, TV.und, TV.und, TV.und, TV.und, TV.und, TV.und, TV.und, TV.und, TV.und, TV.und, TV.und, TV.und, TV.und, TV.und, TV.und, TV.und, TV.und, TV.und, TV.und, TV.und, TV.und, TV.und, TV.und, TV.und, TV.und, TV.und, TV.und, TV.und, TV.und, TV.und, TV.und, TV.und, TV.und, TV.und, TV.und, TV.und, TV.und, TV.und, TV.und, TV.und, TV.und, TV.und, TV.und, TV.und, TV.und, TV.und, TV.und, TV.und, TV.und, TV.und, TV.und, TV.und, TV.und, TV.und, TV.und, TV.und, TV.und, TV.und, TV.und, TV.und, TV.und, TV.und] [])
def utf_Named_L0 (R : TV → List Ob → Prop) (s : ByteArray) (i : Int) : Prop := LoopAt Tryz.prog (modeOf [] []) utf_Named_lv Tryz.f159 none R [1, 0, 1, 0] (utf_Named_S0 s i)
def utf_Named_R0 (R : TV → List Ob → Prop) (s : ByteArray) (i : Int) : Prop :=
 ((((decide (i < 6)) = true) → ((((0 : Int) ≤ i) ∧ (i < 6)) ∧ (∃ n12 : Int, (∃ s15 : ByteArray, ((cutT [(AV.fz (FV.int .i64 32)), (AV.fz (FV.str (ByteArray.mk #[115, 112, 97, 99, 101]))), (AV.fz (FV.int .i64 10)), (AV.fz (FV.str (ByteArray.mk #[110, 101, 119, 108, 105, 110, 101]))), (AV.fz (FV.int .i64 9)), (AV.fz (FV.str (ByteArray.mk #[116, 97, 98]))), (AV.fz (FV.int .i64 13)), (AV.fz (FV.str (ByteArray.mk #[114, 101, 116, 117, 114, 110]))), (AV.fz (FV.int .i64 0)), (AV.fz (FV.str (ByteArray.mk #[110, 117, 108, 108]))), (AV.fz (FV.int .i64 127)), (AV.fz (FV.str (ByteArray.mk #[100, 101, 108, 101, 116, 101])))] ((Int.toNat i) * 2) 2 [(FV.int .i64 n12), (FV.str s15)]) ∧ (((((ByteArray.toList s15) == (ByteArray.toList s)) = true) → (R (TV.tup [(false, [(AV.fz (FV.int .i64 n12))]), (false, [(AV.fz (FV.bool true))])]) [])) ∧ ((((ByteArray.toList s15) == (ByteArray.toList s)) = false) → (utf_Named_L0 R s (IntKind.wrap .i64 (i + 1)))))))))) ∧ (((decide (i < 6)) = false) → (∃ n13 : Int, (∃ n14 : Int, ((Fn Tryz.prog 87 [(TV.one (AV.fz (FV.str s)))] [] (TV.tup [(false, [(AV.fz (FV.int .i32 n13))]), (false, [(AV.fz (FV.int .i64 n14))])]) []) ∧ ((((n14 == (((ByteArray.size s) : Nat) : Int)) = true) → ((((decide ((0 : Int) < n14)) = true) → ((((n13 != 65533) = true) → (R (TV.tup [(false, [(AV.fz (FV.int .i64 (IntKind.wrap .i64 n13)))]), (false, [(AV.fz (FV.bool true))])]) [])) ∧ (((n13 != 65533) = false) → ((((decide ((1 : Int) < n14)) = true) → (R (TV.tup [(false, [(AV.fz (FV.int .i64 (IntKind.wrap .i64 n13)))]), (false, [(AV.fz (FV.bool true))])]) [])) ∧ (((decide ((1 : Int) < n14)) = false) → (∃ s16 : ByteArray, (∃ b18 : Bool, ((Fn Tryz.prog 185 [(TV.one (AV.fz (FV.str s))), (TV.one (AV.fz (FV.str (ByteArray.mk #[120]))))] [] (TV.tup [(false, [(AV.fz (FV.str s16))]), (false, [(AV.fz (FV.bool b18))])]) []) ∧ ((((Bool.not b18) = true) → (R (TV.tup [(false, [(AV.fz (FV.int .i64 0))]), (false, [(AV.fz (FV.bool false))])]) [])) ∧ (((Bool.not b18) = false) → ((((decide ((6 : Int) < (((ByteArray.size s16) : Nat) : Int))) = true) → (R (TV.tup [(false, [(AV.fz (FV.int .i64 0))]), (false, [(AV.fz (FV.bool false))])]) [])) ∧ (((decide ((6 : Int) < (((ByteArray.size s16) : Nat) : Int))) = false) → (∃ s17 : ByteArray, ((Fn Tryz.prog 161 [(TV.one (AV.fz (FV.str s16))), (TV.one (AV.fz (FV.str (ByteArray.mk #[48, 49, 50, 51, 52, 53, 54, 55, 56, 57, 97, 98, 99, 100, 101, 102, 65, 66, 67, 68, 69, 70]))))] [] (TV.one (AV.fz (FV.str s17))) []) ∧ ((((Bool.not ((ByteArray.toList s17) == (ByteArray.toList (ByteArray.mk #[])))) = true) → (R (TV.tup [(false, [(AV.fz (FV.int .i64 0))]), (false, [(AV.fz (FV.bool false))])]) [])) ∧ (((Bool.not ((ByteArray.toList s17) == (ByteArray.toList (ByteArray.mk #[])))) = false) → (∃ n15 : Int, (∃ b19 : Bool, ((Fn Tryz.prog 186 [(TV.one (AV.fz (FV.str s16))), (TV.one (AV.fz (FV.int .i64 16))), (TV.one (AV.fz (FV.int .i64 32)))] [] (TV.tup [(false, [(AV.fz (FV.int .u64 n15))]), (false, [(AV.fz (FV.ifc b19))])]) []) ∧ ((((Bool.not (Bool.not b19)) = true) → (R (TV.tup [(false, [(AV.fz (FV.int .i64 0))]), (false, [(AV.fz (FV.bool false))])]) [])) ∧ (((Bool.not (Bool.not b19)) = false) → (∃ b20 : Bool, ((Fn Tryz.prog 64 [(TV.one (AV.fz (FV.int .i64 (IntKind.wrap .i64 n15))))] [] (TV.one (AV.fz (FV.bool b20))) []) ∧ ((((Bool.not b20) = true) → (R (TV.tup [(false, [(AV.fz (FV.int .i64 0))]), (false, [(AV.fz (FV.bool false))])]) [])) ∧ (((Bool.not b20) = false) → (R (TV.tup [(false, [(AV.fz (FV.int .i64 (IntKind.wrap .i64 n15)))]), (false, [(AV.fz (FV.bool true))])]) [])))))))))))))))))))))))))) ∧ (((decide ((0 : Int) < n14)) = false) → (∃ s18 : ByteArray, (∃ b21 : Bool, ((Fn Tryz.prog 185 [(TV.one (AV.fz (FV.str s))), (TV.one (AV.fz (FV.str (ByteArray.mk #[120]))))] [] (TV.tup [(false, [(AV.fz (FV.str s18))]), (false, [(AV.fz (FV.bool b21))])]) []) ∧ ((((Bool.not b21) = true) → (R (TV.tup [(false, [(AV.fz (FV.int .i64 0))]), (false, [(AV.fz (FV.bool false))])]) [])) ∧ (((Bool.not b21) = false) → ((((decide ((6 : Int) < (((ByteArray.size s18) : Nat) : Int))) = true) → (R (TV.tup [(false, [(AV.fz (FV.int .i64 0))]), (false, [(AV.fz (FV.bool false))])]) [])) ∧ (((decide ((6 : Int) < (((ByteArray.size s18) : Nat) : Int))) = false) → (∃ s19 : ByteArray, ((Fn Tryz.prog 161 [(TV.one (AV.fz (FV.str s18))), (TV.one (AV.fz (FV.str (ByteArray.mk #[48, 49, 50, 51, 52, 53, 54, 55, 56, 57, 97, 98, 99, 100, 101, 102, 65, 66, 67, 68, 69, 70]))))] [] (TV.one (AV.fz (FV.str s19))) []) ∧ ((((Bool.not ((ByteArray.toList s19) == (ByteArray.toList (ByteArray.mk #[])))) = true) → (R (TV.tup [(false, [(AV.fz (FV.int .i64 0))]), (false, [(AV.fz (FV.bool false))])]) [])) ∧ (((Bool.not ((ByteArray.toList s19) == (ByteArray.toList (ByteArray.mk #[])))) = false) → (∃ n16 : Int, (∃ b22 : Bool, ((Fn Tryz.prog 186 [(TV.one (AV.fz (FV.str s18))), (TV.one (AV.fz (FV.int .i64 16))), (TV.one (AV.fz (FV.int .i64 32)))] [] (TV.tup [(false, [(AV.fz (FV.int .u64 n16))]), (false, [(AV.fz (FV.ifc b22))])]) []) ∧ ((((Bool.not (Bool.not b22)) = true) → (R (TV.tup [(false, [(AV.fz (FV.int .i64 0))]), (false, [(AV.fz (FV.bool false))])]) [])) ∧ (((Bool.not (Bool.not b22)) = false) → (∃ b23 : Bool, ((Fn Tryz.prog 64 [(TV.one (AV.fz (FV.int .i64 (IntKind.wrap .i64 n16))))] [] (TV.one (AV.fz (FV.bool b23))) []) ∧ ((((Bool.not b23) = true) → (R (TV.tup [(false, [(AV.fz (FV.int .i64 0))]), (false, [(AV.fz (FV.bool false))])]) [])) ∧ (((Bool.not b23) = false) → (R (TV.tup [(false, [(AV.fz (FV.int .i64 (IntKind.wrap .i64 n16)))]), (false, [(AV.fz (FV.bool true))])]) [])))))))))))))))))))))))) ∧ (((n14 == (((ByteArray.size s) : Nat) : Int)) = false) → (∃ s20 : ByteArray, (∃ b24 : Bool, ((Fn Tryz.prog 185 [(TV.one (AV.fz (FV.str s))), (TV.one (AV.fz (FV.str (ByteArray.mk #[120]))))] [] (TV.tup [(false, [(AV.fz (FV.str s20))]), (false, [(AV.fz (FV.bool b24))])]) []) ∧ ((((Bool.not b24) = true) → (R (TV.tup [(false, [(AV.fz (FV.int .i64 0))]), (false, [(AV.fz (FV.bool false))])]) [])) ∧ (((Bool.not b24) = false) → ((((decide ((6 : Int) < (((ByteArray.size s20) : Nat) : Int))) = true) → (R (TV.tup [(false, [(AV.fz (FV.int .i64 0))]), (false, [(AV.fz (FV.bool false))])]) [])) ∧ (((decide ((6 : Int) < (((ByteArray.size s20) : Nat) : Int))) = false) → (∃ s21 : ByteArray, ((Fn Tryz.prog 161 [(TV.one (AV.fz (FV.str s20))), (TV.one (AV.fz (FV.str (ByteArray.mk #[48, 49, 50, 51, 52, 53, 54, 55, 56, 57, 97, 98, 99, 100, 101, 102, 65, 66, 67, 68, 69, 70]))))] [] (TV.one (AV.fz (FV.str s21))) []) ∧ ((((Bool.not ((ByteArray.toList s21) == (ByteArray.toList (ByteArray.mk #[])))) = true) → (R (TV.tup [(false, [(AV.fz (FV.int .i64 0))]), (false, [(AV.fz (FV.bool false))])]) [])) ∧ (((Bool.not ((ByteArray.toList s21) == (ByteArray.toList (ByteArray.mk #[])))) = false) → (∃ n17 : Int, (∃ b25 : Bool, ((Fn Tryz.prog 186 [(TV.one (AV.fz (FV.str s20))), (TV.one (AV.fz (FV.int .i64 16))), (TV.one (AV.fz (FV.int .i64 32)))] [] (TV.tup [(false, [(AV.fz (FV.int .u64 n17))]), (false, [(AV.fz (FV.ifc b25))])]) []) ∧ ((((Bool.not (Bool.not b25)) = true) → (R (TV.tup [(false, [(AV.fz (FV.int .i64 0))]), (false, [(AV.fz (FV.bool false))])]) [])) ∧ (((Bool.not (Bool.not b25)) = false) → (∃ b26 : Bool, ((Fn Tryz.prog 64 [(TV.one (AV.fz (FV.int .i64 (IntKind.wrap .i64 n17))))] [] (TV.one (AV.fz (FV.bool b26))) []) ∧ ((((Bool.not b26) = true) → (R (TV.tup [(false, [(AV.fz (FV.int .i64 0))]), (false, [(AV.fz (FV.bool false))])]) [])) ∧ (((Bool.not b26) = false) → (R (TV.tup [(false, [(AV.fz (FV.int .i64 (IntKind.wrap .i64 n17)))]), (false, [(AV.fz (FV.bool true))])]) []))))))))))))))))))))))))))))
theorem utf_Named_l0 {R : TV → List Ob → Prop} {s : ByteArray} {i : Int} (h : utf_Named_R0 R s i) : utf_Named_L0 R s i :=
 LoopAt.by_tr (by kernel_rfl) (by kernel_rfl) h
def utf_Named_H (R : TV → List Ob → Prop) (s : ByteArray) : Prop :=
 (utf_Named_L0 R s 0)
theorem utf_Named_fn (s : ByteArray) {r : TV} {h : List Ob} (H : utf_Named_H (fun r' h' => r' = r ∧ h' = h) s) : Fn Tryz.prog 159 [(TV.one (AV.fz (FV.str s)))] [] r h :=
 Fn.by_tr (M := (modeOf [] [])) (lv := utf_Named_lv) (own := none) (F := Tryz.f159) (by kernel_rfl) (by kernel_rfl) (by first | decide | simp) (fun _ _ h => h) (by kernel_rfl) H
def utf_Encode_lv : List Nat → Keep := lvOf [([0, 1, 0, 1, 1], ⟨912, 0, [], false, false⟩)]
def utf_Encode_S0 (list : LL) (i : Int) (o : LL) : St := (St.mk [TV.und, TV.und, TV.und, TV.und, (TV.one (AV.ofl 1 0)), TV.und, TV.und, (TV.one (AV.fz (FV.sl 1 list))), (TV.one (AV.fz (FV.int .i64 (((List.length list) : Nat) : Int)))), (TV.one (AV.fz (FV.int .i64 i))), TV.und, TV.und, TV.und, TV.und, TV.und, TV.und, TV.und, TV.und, TV.und, TV.und, TV.und, TV.und] [(Ob.f 0 1 o)])
def utf_Encode_L0 (R : TV → List Ob → Prop) (list : LL) (i : Int) (o : LL) : Prop := LoopAt Tryz.prog (modeOf [] [(183, [(Sig.mk 0 [(false, [(AT.a (AV.ofl 1 0))])] [(OT.f 0 1)] 1), (Sig.mk 1 [(false, [(AT.a (AV.ofl 1 1))])] [OT.no, (OT.f 0 1)] 1)])]) utf_Encode_lv Tryz.f157 none R [1, 1, 0, 1, 0] (utf_Encode_S0 list i o)
def utf_Encode_R0 (R : TV → List Ob → Prop) (list : List (List FV)) (i : Int) (o : List (List FV)) : Prop :=
 ((((decide (i < (((List.length list) : Nat) : Int))) = true) → (((0 : Int) ≤ i) ∧ (∃ n2 : Int, (((list)[(Int.toNat i)]? = (some [(FV.int .i64 n2)])) ∧ (∃ b2 : Bool, ((Fn Tryz.prog 64 [(TV.one (AV.fz (FV.int .i64 n2)))] [] (TV.one (AV.fz (FV.bool b2))) []) ∧ ((((Bool.not b2) = true) → (R (TV.tup [(false, [(AV.fz (FV.sl 1 ([] : LL)))]), (false, [(AV.fz (FV.int .i64 1))])]) [])) ∧ (((Bool.not b2) = false) → (∃ es2 : LL, ((Fn Tryz.prog 183 [(TV.one (AV.ofl 1 0)), (TV.one (AV.fz (FV.int .i32 (IntKind.wrap .i32 n2))))] [(Ob.f 0 1 o)] (TV.one (AV.ofl 1 1)) [Ob.no, (Ob.f 0 1 es2)]) ∧ (utf_Encode_L0 R list (IntKind.wrap .i64 (i + 1)) es2))))))))))) ∧ (((decide (i < (((List.length list) : Nat) : Int))) = false) → (R (TV.tup [(false, [(AV.fz (FV.sl 1 o))]), (false, [(AV.fz (FV.int .i64 0))])]) [])))
theorem utf_Encode_l0 {R : TV → List Ob → Prop} {list : LL} {i : Int} {o : LL} (h : utf_Encode_R0 R list i o) : utf_Encode_L0 R list i o :=
 LoopAt.by_tr (by kernel_rfl) (by kernel_rfl) h
def utf_Encode_H (R : TV → List Ob → Prop) (list : List (List FV)) : Prop :=
 (utf_Encode_L0 R list 0 ([] : List (List FV)))
theorem utf_Encode_fn (list : LL) {r : TV} {h : List Ob} (H : utf_Encode_H (fun r' h' => r' = r ∧ h' = h) list) : Fn Tryz.prog 157 [(TV.one (AV.fz (FV.sl 1 list)))] [] r h :=
 Fn.by_tr (M := (modeOf [] [(183, [(Sig.mk 0 [(false, [(AT.a (AV.ofl 1 0))])] [(OT.f 0 1)] 1), (Sig.mk 1 [(false, [(AT.a (AV.ofl 1 1))])] [OT.no, (OT.f 0 1)] 1)])])) (lv := utf_Encode_lv) (own := none) (F := Tryz.f157) (by kernel_rfl) (by kernel_rfl) (by first | decide | simp) (fun _ _ h => h) (by kernel_rfl) H
end
section
theorem ValidRune_ok (c : Int) : Fn Tryz.prog 100 [fzI .i32 c] [] (fzB (scalB c)) [] := by
 refine unicode_utf8_ValidRune_fn _ ?_
 obtain ⟨R, hR, hRe⟩ := exR (fzB (scalB c)); rw [hRe]; clear hRe
 have fin : ∀ b, b = scalB c → R (fzB b) [] := fun b h => by rw [h]; exact hR
 unfold unicode_utf8_ValidRune_H
 simp only [dec_t, dec_f]
 unfold scalB at fin
 refine ⟨fun h0 => ⟨fun h1 => fin _ ?_, fun h1 => ⟨fun h2 => ⟨fun h3 => fin _ ?_, fun h3 => fin _ ?_⟩, fun h2 => fin _ ?_⟩⟩, fun h0 => ⟨fun h2 => ⟨fun h3 => fin _ ?_, fun h3 => fin _ ?_⟩, fun h2 => fin _ ?_⟩⟩
 ·simp; omega
 ·simp; omega
 ·simp; omega
 ·simp; omega
 ·simp; omega
 ·simp; omega
 ·simp; omega
theorem uScalar_ok (c : Int) : Fn Tryz.prog 64 [fzI .i64 c] [] (fzB (scalB c)) [] := by
 refine utf_Scalar_fn _ ?_
 obtain ⟨R, hR, hRe⟩ := exR (fzB (scalB c)); rw [hRe]; clear hRe
 unfold utf_Scalar_H
 simp only [dec_t, dec_f]
 refine ⟨fun h0 => ⟨fun h1 => ⟨scalB c, ?_, hR⟩, fun h1 => ?_⟩, fun h0 => ?_⟩
 ·rw [w32_in (by omega) (by omega)]; exact ValidRune_ok c
 ·have : scalB c = false := by unfold scalB; simp; omega
  rw [this] at hR; exact hR
 ·have : scalB c = false := by unfold scalB; simp; omega
  rw [this] at hR; exact hR
theorem scanFn1_ok (c : Int) : Fn Tryz.prog 63 [fzI .i64 c] [] (fzB (!(scalB c))) [] := by
 refine token_Scan_1_fn _ ?_
 unfold token_Scan_1_H
 exact ⟨scalB c, uScalar_ok c, rfl, rfl⟩
theorem u8_mod (y : Int) : IntKind.wrap .u8 y = y % 256 := rfl
theorem cont_bits (y : Int) (h : 0 ≤ y) : IntKind.wrap .u8 (((BitVec.toNat ((BitVec.ofInt 8 128) ||| (BitVec.ofInt 8 (IntKind.wrap .u8 (((BitVec.toNat ((BitVec.ofInt 8 (IntKind.wrap .u8 y)) &&& (BitVec.ofInt 8 63))) : Nat) : Int))))) : Nat) : Int) = 128 + y % 64 := by
 have key : ∀ n : Fin 256, IntKind.wrap .u8 (((BitVec.toNat ((BitVec.ofInt 8 128) ||| (BitVec.ofInt 8 (IntKind.wrap .u8 (((BitVec.toNat ((BitVec.ofInt 8 (n.val : Int)) &&& (BitVec.ofInt 8 63))) : Nat) : Int))))) : Nat) : Int) = 128 + (n.val : Int) % 64 := by decide +kernel
 have h2 := key ⟨(y % 256).toNat, by omega⟩
 have h3 : (((y % 256).toNat : Nat) : Int) = y % 256 := by omega
 simp only [h3] at h2
 rw [u8_mod y, h2]
 omega
theorem lead192 (y : Int) (h0 : 0 ≤ y) (h1 : y < 32) : IntKind.wrap .u8 (((BitVec.toNat ((BitVec.ofInt 8 192) ||| (BitVec.ofInt 8 (IntKind.wrap .u8 y)))) : Nat) : Int) = 192 + y := by
 have k1 : ∀ n : Fin 32, IntKind.wrap .u8 (((BitVec.toNat ((BitVec.ofInt 8 192) ||| (BitVec.ofInt 8 (IntKind.wrap .u8 (n.val : Int))))) : Nat) : Int) = 192 + (n.val : Int) := by decide +kernel
 have h3 : ((y.toNat : Nat) : Int) = y := by omega
 have := k1 ⟨y.toNat, by omega⟩
 simp only [h3] at this; exact this
theorem lead224 (y : Int) (h0 : 0 ≤ y) (h1 : y < 16) : IntKind.wrap .u8 (((BitVec.toNat ((BitVec.ofInt 8 224) ||| (BitVec.ofInt 8 (IntKind.wrap .u8 y)))) : Nat) : Int) = 224 + y := by
 have k1 : ∀ n : Fin 16, IntKind.wrap .u8 (((BitVec.toNat ((BitVec.ofInt 8 224) ||| (BitVec.ofInt 8 (IntKind.wrap .u8 (n.val : Int))))) : Nat) : Int) = 224 + (n.val : Int) := by decide +kernel
 have h3 : ((y.toNat : Nat) : Int) = y := by omega
 have := k1 ⟨y.toNat, by omega⟩
 simp only [h3] at this; exact this
theorem lead240 (y : Int) (h0 : 0 ≤ y) (h1 : y < 8) : IntKind.wrap .u8 (((BitVec.toNat ((BitVec.ofInt 8 240) ||| (BitVec.ofInt 8 (IntKind.wrap .u8 y)))) : Nat) : Int) = 240 + y := by
 have k1 : ∀ n : Fin 8, IntKind.wrap .u8 (((BitVec.toNat ((BitVec.ofInt 8 240) ||| (BitVec.ofInt 8 (IntKind.wrap .u8 (n.val : Int))))) : Nat) : Int) = 240 + (n.val : Int) := by decide +kernel
 have h3 : ((y.toNat : Nat) : Int) = y := by omega
 have := k1 ⟨y.toNat, by omega⟩
 simp only [h3] at this; exact this
theorem exW (v : TV) (h : List Ob) : ∃ R : TV → List Ob → Prop, (∀ h', Wk h' h → R v h') ∧ (fun r' h' => r' = v ∧ Wk h' h) = R := ⟨_, fun _ hw => ⟨rfl, hw⟩, rfl⟩
theorem scal_in {c : Int} (h : scalB c = true) : 0 ≤ c ∧ c ≤ 1114111 ∧ ¬ (55296 ≤ c ∧ c ≤ 57343) := by
 unfold scalB at h
 simp only [Bool.and_eq_true, decide_eq_true_eq, Bool.not_eq_true', Bool.and_eq_false_iff, decide_eq_false_iff_not] at h
 omega
theorem fd6 {c : Int} (h : 0 ≤ c) : Int.fdiv c (2 ^ (min (Int.toNat 6) 32)) = c / 64 := Int.fdiv_eq_ediv_of_nonneg c (by decide)
theorem fd12 {c : Int} (h : 0 ≤ c) : Int.fdiv c (2 ^ (min (Int.toNat 12) 32)) = c / 4096 := Int.fdiv_eq_ediv_of_nonneg c (by decide)
theorem fd18 {c : Int} (h : 0 ≤ c) : Int.fdiv c (2 ^ (min (Int.toNat 18) 32)) = c / 262144 := Int.fdiv_eq_ediv_of_nonneg c (by decide)
theorem utfB_two {c : Int} (h : 128 ≤ c) (h2 : c < 2048) : ints .u8 (utfB c) = [[FV.int .u8 (192 + c / 64)], [FV.int .u8 (128 + c % 64)]] := by
 unfold utfB; rw [if_neg (by omega), if_pos h2]; rfl
theorem utfB_three {c : Int} (h : 2048 ≤ c) (h2 : c < 65536) : ints .u8 (utfB c) = [[FV.int .u8 (224 + c / 4096)], [FV.int .u8 (128 + c / 64 % 64)], [FV.int .u8 (128 + c % 64)]] := by
 unfold utfB; rw [if_neg (by omega), if_neg (by omega), if_pos h2]; rfl
theorem utfB_four {c : Int} (h : 65536 ≤ c) : ints .u8 (utfB c) = [[FV.int .u8 (240 + c / 262144)], [FV.int .u8 (128 + c / 4096 % 64)], [FV.int .u8 (128 + c / 64 % 64)], [FV.int .u8 (128 + c % 64)]] := by
 unfold utfB; rw [if_neg (by omega), if_neg (by omega), if_neg (by omega)]; rfl
theorem appNA1 {c : Int} (h : scalB c = true) (hc : 128 ≤ c) (l : List Int) (hl : l.length ≤ 200000000000000) :
  Fn Tryz.prog 210 [.one (.ofl 1 0), fzI .i32 c] [.f 0 1 (ints .u8 l)] (.one (.ofl 1 1)) [.no, .f 0 1 (ints .u8 (l ++ utfB c))] := by
 obtain ⟨h0, h1, hs⟩ := scal_in h
 refine unicode_utf8_appendRuneNonASCII1_fn _ _ ?_
 obtain ⟨R, hR, hRe⟩ := exW (.one (.ofl 1 1)) [.no, .f 0 1 (ints .u8 (l ++ utfB c))]; rw [hRe]; clear hRe
 rw [← ints_app] at hR
 unfold unicode_utf8_appendRuneNonASCII1_H
 simp only [dec_t, dec_f, wu32 h0 (by omega : c ≤ 4294967295), fd6 h0, fd12 h0, fd18 h0, cont_bits c h0, cont_bits (c / 64) (by omega), cont_bits (c / 4096) (by omega), ints_len, List.length_cons, List.length_nil]
 refine ⟨fun a1 => ?_, fun a1 => ⟨fun a2 => ?_, fun a2 => ⟨fun a3 => ⟨fun a4 => ?_, fun a4 => ⟨fun a5 => ⟨fun a6 => ?_, fun a6 => absurd a6 (by omega)⟩, fun a5 => absurd a5 (by omega)⟩⟩, fun a3 => absurd a3 (by omega)⟩⟩⟩
 ·rw [lead192 _ (by omega) (by omega), ← utfB_two hc (by omega)]
  exact ⟨by omega, by omega, hR _ (Wk.refl _)⟩
 ·rw [lead224 _ (by omega) (by omega), ← utfB_three (by omega) (by omega)]
  exact ⟨by omega, by omega, by omega, hR _ (Wk.refl _)⟩
 ·rw [lead224 _ (by omega) (by omega), ← utfB_three (by omega) (by omega)]
  exact ⟨by omega, by omega, by omega, hR _ (Wk.refl _)⟩
 ·rw [lead240 _ (by omega) (by omega), ← utfB_four (by omega)]
  exact ⟨by omega, by omega, by omega, by omega, hR _ (Wk.refl _)⟩
theorem append1_ok {c : Int} (h : scalB c = true) (l : List Int) (hl : l.length ≤ 200000000000000) :
  Fn Tryz.prog 183 [.one (.ofl 1 0), fzI .i32 c] [.f 0 1 (ints .u8 l)] (.one (.ofl 1 1)) [.no, .f 0 1 (ints .u8 (l ++ utfB c))] := by
 obtain ⟨h0, h1, hs⟩ := scal_in h
 refine unicode_utf8_AppendRune1_fn _ _ ?_
 obtain ⟨R, hR, hRe⟩ := exW (.one (.ofl 1 1)) [.no, .f 0 1 (ints .u8 (l ++ utfB c))]; rw [hRe]; clear hRe
 unfold unicode_utf8_AppendRune1_H
 simp only [dec_t, dec_f, wu32 h0 (by omega : c ≤ 4294967295), ints_len, List.length_cons, List.length_nil]
 refine ⟨fun a1 => ⟨by omega, ?_⟩, fun a1 => ⟨_, appNA1 h (by omega) l hl, hR _ (Wk.refl _)⟩⟩
 rw [wu8 h0 (by omega), ints_snoc]
 have : utfB c = [c] := by unfold utfB; rw [if_pos (by omega)]
 rw [this] at hR
 exact hR _ (Wk.refl _)
def enc (l : List Int) : List Int := (l.map utfB).flatten
theorem enc_cons (c : Int) (l : List Int) : enc (c :: l) = utfB c ++ enc l := rfl
theorem enc_app (l m : List Int) : enc (l ++ m) = enc l ++ enc m := by simp [enc]
theorem utfB_le (c : Int) : (utfB c).length ≤ 4 := by
 have := utfB_len c
 split at this
 ·omega
 ·split at this
  ·omega
  ·split at this <;> omega
theorem enc_len (l : List Int) : (enc l).length ≤ 4 * l.length := by
 induction l with
 | nil => simp [enc]
 | cons c r ih =>
  rw [enc_cons]
  have := utfB_le c
  simp only [List.length_append, List.length_cons]
  omega
theorem utfB_bytes {c : Int} (h : scalB c = true) : Bytes (utfB c) := by
 obtain ⟨h0, h1, hs⟩ := scal_in h
 intro x hx
 unfold utfB at hx
 split at hx
 ·simp at hx; omega
 ·split at hx
  ·simp at hx; omega
  ·split at hx
   ·simp at hx; omega
   ·simp at hx; omega
def Scals (l : List Int) : Prop := ∀ c ∈ l, scalB c = true
theorem enc_bytes {l : List Int} (h : Scals l) : Bytes (enc l) := by
 induction l with
 | nil => intro x hx; cases hx
 | cons c r ih =>
  intro x hx
  rw [enc_cons] at hx
  rcases List.mem_append.1 hx with hx | hx
  ·exact utfB_bytes (h c (by simp)) x hx
  ·exact ih (fun y hy => h y (by simp [hy])) x hx
theorem encode_loop (l : List Int) (hs : Scals l) (hlen : l.length ≤ 50000000000) (R : TV → List Ob → Prop) (hR : R (.tup [(false, [.fz (.sl 1 (ints .u8 (enc l)))]), (false, [.fz (.int .i64 0)])]) []) :
  ∀ (m i : Nat), l.length - i = m → i ≤ l.length → utf_Encode_L0 R (ints .i64 l) i (ints .u8 (enc (l.take i))) := by
 intro m
 induction m with
 | zero =>
  intro i hi hle
  refine utf_Encode_l0 ?_
  unfold utf_Encode_R0
  simp only [dec_t, dec_f, ints_len]
  refine ⟨fun a => absurd a (by omega), fun _ => ?_⟩
  rw [show i = l.length by omega, List.take_length]
  exact hR
 | succ m ih =>
  intro i hi hle
  refine utf_Encode_l0 ?_
  unfold utf_Encode_R0
  simp only [dec_t, dec_f, ints_len, Int.toNat_natCast]
  refine ⟨fun _ => ⟨by omega, ?_⟩, fun a => absurd a (by omega)⟩
  have hlt : i < l.length := by omega
  have hc : scalB (rd l i) = true := hs _ (by rw [rd_at l i hlt]; exact List.getElem_mem hlt)
  obtain ⟨h0, h1, _⟩ := scal_in hc
  refine ⟨rd l i, ?_, true, ?_, ?_⟩
  ·simp [ints, some_rd hlt]
  ·have := uScalar_ok (rd l i); rw [hc] at this; exact this
  ·simp only [Bool.not_true, Bool.false_eq_true, false_implies, true_and, forall_const]
   rw [w32_in (by omega) (by omega), w64 (by omega) (by omega)]
   have hel := enc_len (l.take i)
   have htl : (l.take i).length ≤ l.length := by simp; omega
   refine ⟨_, append1_ok hc (enc (l.take i)) (by omega), ?_⟩
   have := ih (i + 1) (by omega) (by omega)
   have ht : l.take (i + 1) = l.take i ++ [rd l i] := by rw [List.take_add_one, some_rd hlt]; rfl
   rw [ht, enc_app, show enc [rd l i] = utfB (rd l i) by simp [enc]] at this
   exact this
theorem uEncode_ok (l : List Int) (hs : Scals l) (hlen : l.length ≤ 50000000000) : Fn Tryz.prog 157 [fzS .i64 l] [] (.tup [(false, [.fz (.sl 1 (ints .u8 (enc l)))]), (false, [.fz (.int .i64 0)])]) [] := by
 refine utf_Encode_fn _ ?_
 obtain ⟨R, hR, hRe⟩ := exR (.tup [(false, [.fz (.sl 1 (ints .u8 (enc l)))]), (false, [.fz (.int .i64 0)])]); rw [hRe]; clear hRe
 unfold utf_Encode_H
 exact encode_loop l hs hlen R hR _ 0 rfl (Nat.zero_le _)
end
section
def pkL (l : List Int) (i : Nat) : Int := if i < l.length then rd l i else -1
theorem pkL_drop (t : List Int) (p i : Nat) : pkL (t.drop p) i = pkL t (p + i) := by
 unfold pkL
 rw [rd_dropN, List.length_drop]
 by_cases h : p + i < t.length
 ·rw [if_pos (by omega), if_pos h]
 ·rw [if_neg (by omega), if_neg h]
def untilN : List Int → Nat
 | [] => 0
 | c :: r => if endsB c = true then 0 else untilN r + 1
theorem untilN_le : ∀ l : List Int, untilN l ≤ l.length
 | [] => Nat.le_refl _
 | c :: r => by
  have := untilN_le r
  unfold untilN
  split <;> simp <;> omega
def blC : Bool → List Int → Nat
 | _, [] => 0
 | true, c :: r => if c = 10 then blC false r + 1 else blC true r + 1
 | false, c :: r => if blankB c = true then blC false r + 1 else if c = 59 then blC true r + 1 else 0
theorem blC_le : ∀ (b : Bool) (l : List Int), blC b l ≤ l.length
 | b, [] => by cases b <;> exact Nat.le_refl _
 | true, c :: r => by
  have h1 := blC_le false r
  have h2 := blC_le true r
  unfold blC
  split <;> simp <;> omega
 | false, c :: r => by
  have h1 := blC_le false r
  have h2 := blC_le true r
  unfold blC
  split
  ·simp; omega
  ·split <;> simp; omega
def semN : Nat → List Int → Nat
 | 0, _ => 0
 | _ + 1, [] => 0
 | n + 1, c :: r => if c = 59 then 0 else semN n r + 1
theorem semN_le : ∀ (n : Nat) (l : List Int), semN n l ≤ n ∧ semN n l ≤ l.length
 | 0, l => ⟨Nat.le_refl _, Nat.zero_le _⟩
 | n + 1, [] => ⟨Nat.zero_le _, Nat.le_refl _⟩
 | n + 1, c :: r => by
  have := semN_le n r
  unfold semN
  split <;> simp <;> omega
def hexD (c : Int) : Int := if 48 ≤ c ∧ c ≤ 57 then c - 48 else if 97 ≤ c ∧ c ≤ 102 then c - 87 else if 65 ≤ c ∧ c ≤ 70 then c - 55 else -1
def hexR : List Int → Int → Int
 | [], n => if scalB n = true then n else -1
 | c :: r, n => if hexD c < 0 then -1 else hexR r (n * 16 + hexD c)
def hexV (T : List Int) : Int := if 1 ≤ T.length ∧ T.length ≤ 6 then hexR T 0 else -1
def namedV (T : List Int) : Int :=
 if T = [115, 112, 97, 99, 101] then 32 else if T = [110, 101, 119, 108, 105, 110, 101] then 10 else if T = [116, 97, 98] then 9 else if T = [114, 101, 116, 117, 114, 110] then 13
 else if T = [110, 117, 108, 108] then 0 else if T = [100, 101, 108, 101, 116, 101] then 127
 else if (chars T).2 = -1 ∧ (chars T).1.length = 1 then rd (chars T).1 0
 else if 2 ≤ T.length ∧ rd T 0 = 120 then hexV (T.drop 1) else -1
theorem hexR_scal : ∀ (l : List Int) (n : Int), hexR l n = -1 ∨ scalB (hexR l n) = true
 | [], n => by
  unfold hexR
  split
  ·exact .inr ‹_›
  ·exact .inl rfl
 | c :: r, n => by
  unfold hexR
  split
  ·exact .inl rfl
  ·exact hexR_scal r _
theorem hexV_scal (T : List Int) : hexV T = -1 ∨ scalB (hexV T) = true := by
 unfold hexV
 split
 ·exact hexR_scal _ _
 ·exact .inl rfl
end
section
theorem semN_spec : ∀ (n : Nat) (l : List Int), (∀ j, j < semN n l → rd l j ≠ 59) ∧ (semN n l = n ∨ semN n l = l.length ∨ rd l (semN n l) = 59)
 | 0, l => ⟨fun j hj => absurd hj (Nat.not_lt_zero j), .inl rfl⟩
 | n + 1, [] => ⟨fun j hj => absurd hj (Nat.not_lt_zero j), .inr (.inl rfl)⟩
 | n + 1, c :: r => by
  obtain ⟨h1, h2⟩ := semN_spec n r
  have key : semN (n + 1) (c :: r) = if c = 59 then 0 else semN n r + 1 := rfl
  rw [key]
  by_cases hc : c = 59
  ·rw [if_pos hc]
   exact ⟨fun j hj => absurd hj (Nat.not_lt_zero j), .inr (.inr hc)⟩
  ·rw [if_neg hc]
   refine ⟨fun j hj => ?_, ?_⟩
   ·cases j with
    | zero => exact hc
    | succ j => exact h1 j (by omega)
   ·rcases h2 with h2 | h2 | h2
    ·exact .inl (by omega)
    ·exact .inr (.inl (by simp; omega))
    ·exact .inr (.inr h2)
def escV (r : List Int) : Int × Nat :=
 let c := pkL r 0
 if c = 110 then (10, 1) else if c = 116 then (9, 1) else if c = 114 then (13, 1) else if c = 92 then (92, 1) else if c = 34 then (34, 1)
 else if c = 120 then (if pkL (r.drop 1) (semN 7 (r.drop 1)) = 59 then (hexV (enc ((r.drop 1).take (semN 7 (r.drop 1)))), semN 7 (r.drop 1) + 2) else (-1, 0)) else (-1, 0)
def strF : Nat → List Int → List Int → Nat → Option (List Int × Nat)
 | 0, _, _, _ => none
 | _ + 1, [], _, _ => none
 | f + 1, c :: r, acc, k => if c = 34 then some (acc, k + 1) else if c ≠ 92 then strF f r (acc ++ [c]) (k + 1) else if (escV r).1 < 0 then none else strF f (r.drop (escV r).2) (acc ++ [(escV r).1]) (k + 1 + (escV r).2)
theorem Scals.drop {l : List Int} (h : Scals l) (n : Nat) : Scals (l.drop n) := fun c hc => h c (List.mem_of_mem_drop hc)
theorem Scals.take {l : List Int} (h : Scals l) (n : Nat) : Scals (l.take n) := fun c hc => h c (List.mem_of_mem_take hc)
theorem Scals.rd {l : List Int} (h : Scals l) {i : Nat} (hi : i < l.length) : scalB (rd l i) = true := h _ (by rw [rd_at l i hi]; exact List.getElem_mem hi)
end
section
def strconv_ParseUint_lv : List Nat → Keep := lvOf []
def strconv_ParseUint_H (R : TV → List Ob → Prop) (s : ByteArray) : Prop :=
 (∃ n1 : Int, (∃ b2 : Bool, ((Fn Tryz.prog 212 [(TV.one (AV.fz (FV.str s))), (TV.one (AV.fz (FV.int .i64 16))), (TV.one (AV.fz (FV.int .i64 32)))] [] (TV.tup [(false, [(AV.fz (FV.int .u64 n1))]), (false, [(AV.fz (FV.ifc b2))])]) []) ∧ (ifB (Bool.not (Bool.not b2)) (∃ b3 : Bool, ((Fn Tryz.prog 196 [(TV.one (AV.fz (FV.str (ByteArray.mk #[80, 97, 114, 115, 101, 85, 105, 110, 116])))), (TV.one (AV.fz (FV.str s))), (TV.one (AV.fz (FV.int .i64 16))), (TV.one (AV.fz (FV.int .i64 32))), (TV.one (AV.fz (FV.ifc b2)))] [] (TV.one (AV.fz (FV.ifc b3))) []) ∧ (R (TV.tup [(false, [(AV.fz (FV.int .u64 n1))]), (false, [(AV.fz (FV.ifc b3))])]) []))) (R (TV.tup [(false, [(AV.fz (FV.int .u64 n1))]), (false, [(AV.fz (FV.ifc false))])]) [])))))
theorem strconv_ParseUint_fn (s : ByteArray) {r : TV} {h : List Ob} (H : strconv_ParseUint_H (fun r' h' => r' = r ∧ h' = h) s) : Fn Tryz.prog 186 [(TV.one (AV.fz (FV.str s))), (TV.one (AV.fz (FV.int .i64 16))), (TV.one (AV.fz (FV.int .i64 32)))] [] r h :=
 Fn.by_tr (M := (modeC [] [])) (lv := strconv_ParseUint_lv) (own := none) (F := Tryz.f186) (by kernel_rfl) (by kernel_rfl) (by first | decide | simp) (fun _ _ h => h) (by kernel_rfl) H
def internal_strconv_ParseUint_lv : List Nat → Keep := lvOf [([0, 1, 0, 1, 1, 1, 1, 1, 1, 1, 1, 1, 1, 1], ⟨4436777100798802905238461234946, 0, [], false, false⟩)]
def internal_strconv_ParseUint_S0 (s : ByteArray) (n13 : Int) (i : Int) : St := (St.mk [TV.und, (TV.one (AV.fz (FV.int .i64 16))), TV.und, TV.und, TV.und, TV.und, TV.und, TV.und, (TV.one (AV.fz (FV.bool ((16 : Int) == 0)))), (TV.one (AV.fz (FV.str s))), (TV.one (AV.fz (FV.int .u64 1152921504606846976))), (TV.one (AV.fz (FV.int .u64 (IntKind.wrap .u64 ((IntKind.wrap .u64 (1 * (2 ^ (min (Int.toNat (IntKind.wrap .u64 32)) 64)))) - 1))))), (TV.one (AV.fz (FV.bool false))), (TV.one (AV.fz (FV.int .u64 n13))), TV.und, TV.und, TV.und, TV.und, TV.und, TV.und, TV.und, TV.und, TV.und, TV.und, TV.und, TV.und, TV.und, TV.und, TV.und, TV.und, TV.und, TV.und, TV.und, TV.und, TV.und, TV.und, TV.und, TV.und, TV.und, TV.und, TV.und, TV.und, TV.und, TV.und, TV.und, TV.und, TV.und, TV.und, TV.und, TV.und, TV.und, TV.und, TV.und, TV.und, TV.und, TV.und, TV.und, TV.und, TV.und, TV.und, TV.und, TV.und, TV.und, TV.und, TV.und, TV.und, TV.und, TV.und, TV.und, TV.und, TV.und, TV.und, TV.und, TV.und, TV.und, TV.und, TV.und, TV.und, TV.und, TV.und, TV.und, TV.und, TV.und, TV.und, TV.und, TV.und, TV.und, TV.und, TV.und, TV.und, TV.und, TV.und, TV.und, TV.und, TV.und, TV.und, TV.und, TV.und, TV.und, (TV.one (AV.fz (FV.sl 1 (List.map (fun b7 => [(FV.int .u8 (((UInt8.toNat b7) : Nat) : Int))]) (Array.toList (ByteArray.data s)))))), (TV.one (AV.fz (FV.int .i64 (((List.length (List.map (fun b8 => [(FV.int .u8 (((UInt8.toNat b8) : Nat) : Int))]) (Array.toList (ByteArray.data s)))) : Nat) : Int)))), (TV.one (AV.fz (FV.int .i64 i))), TV.und, TV.und, TV.und, TV.und, TV.und, TV.und, TV.und, TV.und, TV.und, TV.und, TV.und, TV.und, TV.und, TV.und, TV.und, TV.und, TV.und, TV.und, TV.und, TV.und, TV.und, TV.und, TV.und, TV.und, TV.und, TV.und, TV.und, TV.und, TV.und, TV.und, TV.und, TV.und, TV.und, TV.und, TV.und, TV.und, TV.und, TV.und, TV.und, TV.und, TV.und, TV.und, TV.und, TV.und, TV.und, TV.und, TV.und, TV.und, TV.und, TV.und, TV.und, TV.und, TV.und, TV.und, TV.und, TV.und, TV.und, TV.und, TV.und, TV.und, TV.und, TV.und, TV.und, TV.und, TV.und, TV.und, TV.und, TV.und, TV.und, TV.und] [])
def internal_strconv_ParseUint_L0 (R : TV → List Ob → Prop) (s : ByteArray) (n13 : Int) (i : Int) : Prop := LoopAt Tryz.prog (modeC [] []) internal_strconv_ParseUint_lv Tryz.f212 none R [1, 1, 1, 1, 1, 1, 1, 1, 1, 1, 1, 0, 1, 0] (internal_strconv_ParseUint_S0 s n13 i)
def internal_strconv_ParseUint_R0 (R : TV → List Ob → Prop) (s : ByteArray) (n13 : Int) (i : Int) : Prop :=
 (ifB (decide (i < (((List.length (List.map (fun b6 => [(FV.int .u8 (((UInt8.toNat b6) : Nat) : Int))]) (Array.toList (ByteArray.data s)))) : Nat) : Int))) (((0 : Int) ≤ i) ∧ (∃ n27 : Int, ((((List.map (fun b5 => [(FV.int .u8 (((UInt8.toNat b5) : Nat) : Int))]) (Array.toList (ByteArray.data s))))[(Int.toNat i)]? = (some [(FV.int .u8 n27)])) ∧ (ifB (n27 == 95) (ifB (decide ((48 : Int) ≤ n27)) (ifB (decide (n27 ≤ 57)) (ifB (decide ((IntKind.wrap .u8 16) ≤ (IntKind.wrap .u8 (n27 - 48)))) (R (TV.tup [(false, [(AV.fz (FV.int .u64 0))]), (false, [(AV.fz (FV.ifv 244 false [(FV.int .i64 2)]))])]) []) (ifB (decide ((1152921504606846976 : Int) ≤ n13)) (R (TV.tup [(false, [(AV.fz (FV.int .u64 (IntKind.wrap .u64 ((IntKind.wrap .u64 (1 * (2 ^ (min (Int.toNat (IntKind.wrap .u64 32)) 64)))) - 1))))]), (false, [(AV.fz (FV.ifv 244 false [(FV.int .i64 1)]))])]) []) (ifB (decide ((IntKind.wrap .u64 ((IntKind.wrap .u64 (n13 * (IntKind.wrap .u64 16))) + (IntKind.wrap .u64 (IntKind.wrap .u8 (n27 - 48))))) < (IntKind.wrap .u64 (n13 * (IntKind.wrap .u64 16))))) (R (TV.tup [(false, [(AV.fz (FV.int .u64 (IntKind.wrap .u64 ((IntKind.wrap .u64 (1 * (2 ^ (min (Int.toNat (IntKind.wrap .u64 32)) 64)))) - 1))))]), (false, [(AV.fz (FV.ifv 244 false [(FV.int .i64 1)]))])]) []) (ifB (decide ((IntKind.wrap .u64 ((IntKind.wrap .u64 (1 * (2 ^ (min (Int.toNat (IntKind.wrap .u64 32)) 64)))) - 1)) < (IntKind.wrap .u64 ((IntKind.wrap .u64 (n13 * (IntKind.wrap .u64 16))) + (IntKind.wrap .u64 (IntKind.wrap .u8 (n27 - 48))))))) (R (TV.tup [(false, [(AV.fz (FV.int .u64 (IntKind.wrap .u64 ((IntKind.wrap .u64 (1 * (2 ^ (min (Int.toNat (IntKind.wrap .u64 32)) 64)))) - 1))))]), (false, [(AV.fz (FV.ifv 244 false [(FV.int .i64 1)]))])]) []) (internal_strconv_ParseUint_L0 R s (IntKind.wrap .u64 ((IntKind.wrap .u64 (n13 * (IntKind.wrap .u64 16))) + (IntKind.wrap .u64 (IntKind.wrap .u8 (n27 - 48))))) (IntKind.wrap .i64 (i + 1))))))) (∃ n28 : Int, ((Fn Tryz.prog 224 [(TV.one (AV.fz (FV.int .u8 n27)))] [] (TV.one (AV.fz (FV.int .u8 n28))) []) ∧ (ifB (decide ((97 : Int) ≤ n28)) (∃ n29 : Int, ((Fn Tryz.prog 224 [(TV.one (AV.fz (FV.int .u8 n27)))] [] (TV.one (AV.fz (FV.int .u8 n29))) []) ∧ (ifB (decide (n29 ≤ 122)) (∃ n30 : Int, ((Fn Tryz.prog 224 [(TV.one (AV.fz (FV.int .u8 n27)))] [] (TV.one (AV.fz (FV.int .u8 n30))) []) ∧ (ifB (decide ((IntKind.wrap .u8 16) ≤ (IntKind.wrap .u8 ((IntKind.wrap .u8 (n30 - 97)) + 10)))) (R (TV.tup [(false, [(AV.fz (FV.int .u64 0))]), (false, [(AV.fz (FV.ifv 244 false [(FV.int .i64 2)]))])]) []) (ifB (decide ((1152921504606846976 : Int) ≤ n13)) (R (TV.tup [(false, [(AV.fz (FV.int .u64 (IntKind.wrap .u64 ((IntKind.wrap .u64 (1 * (2 ^ (min (Int.toNat (IntKind.wrap .u64 32)) 64)))) - 1))))]), (false, [(AV.fz (FV.ifv 244 false [(FV.int .i64 1)]))])]) []) (ifB (decide ((IntKind.wrap .u64 ((IntKind.wrap .u64 (n13 * (IntKind.wrap .u64 16))) + (IntKind.wrap .u64 (IntKind.wrap .u8 ((IntKind.wrap .u8 (n30 - 97)) + 10))))) < (IntKind.wrap .u64 (n13 * (IntKind.wrap .u64 16))))) (R (TV.tup [(false, [(AV.fz (FV.int .u64 (IntKind.wrap .u64 ((IntKind.wrap .u64 (1 * (2 ^ (min (Int.toNat (IntKind.wrap .u64 32)) 64)))) - 1))))]), (false, [(AV.fz (FV.ifv 244 false [(FV.int .i64 1)]))])]) []) (ifB (decide ((IntKind.wrap .u64 ((IntKind.wrap .u64 (1 * (2 ^ (min (Int.toNat (IntKind.wrap .u64 32)) 64)))) - 1)) < (IntKind.wrap .u64 ((IntKind.wrap .u64 (n13 * (IntKind.wrap .u64 16))) + (IntKind.wrap .u64 (IntKind.wrap .u8 ((IntKind.wrap .u8 (n30 - 97)) + 10))))))) (R (TV.tup [(false, [(AV.fz (FV.int .u64 (IntKind.wrap .u64 ((IntKind.wrap .u64 (1 * (2 ^ (min (Int.toNat (IntKind.wrap .u64 32)) 64)))) - 1))))]), (false, [(AV.fz (FV.ifv 244 false [(FV.int .i64 1)]))])]) []) (internal_strconv_ParseUint_L0 R s (IntKind.wrap .u64 ((IntKind.wrap .u64 (n13 * (IntKind.wrap .u64 16))) + (IntKind.wrap .u64 (IntKind.wrap .u8 ((IntKind.wrap .u8 (n30 - 97)) + 10))))) (IntKind.wrap .i64 (i + 1))))))))) (R (TV.tup [(false, [(AV.fz (FV.int .u64 0))]), (false, [(AV.fz (FV.ifv 244 false [(FV.int .i64 2)]))])]) [])))) (R (TV.tup [(false, [(AV.fz (FV.int .u64 0))]), (false, [(AV.fz (FV.ifv 244 false [(FV.int .i64 2)]))])]) []))))) (∃ n31 : Int, ((Fn Tryz.prog 224 [(TV.one (AV.fz (FV.int .u8 n27)))] [] (TV.one (AV.fz (FV.int .u8 n31))) []) ∧ (ifB (decide ((97 : Int) ≤ n31)) (∃ n32 : Int, ((Fn Tryz.prog 224 [(TV.one (AV.fz (FV.int .u8 n27)))] [] (TV.one (AV.fz (FV.int .u8 n32))) []) ∧ (ifB (decide (n32 ≤ 122)) (∃ n33 : Int, ((Fn Tryz.prog 224 [(TV.one (AV.fz (FV.int .u8 n27)))] [] (TV.one (AV.fz (FV.int .u8 n33))) []) ∧ (ifB (decide ((IntKind.wrap .u8 16) ≤ (IntKind.wrap .u8 ((IntKind.wrap .u8 (n33 - 97)) + 10)))) (R (TV.tup [(false, [(AV.fz (FV.int .u64 0))]), (false, [(AV.fz (FV.ifv 244 false [(FV.int .i64 2)]))])]) []) (ifB (decide ((1152921504606846976 : Int) ≤ n13)) (R (TV.tup [(false, [(AV.fz (FV.int .u64 (IntKind.wrap .u64 ((IntKind.wrap .u64 (1 * (2 ^ (min (Int.toNat (IntKind.wrap .u64 32)) 64)))) - 1))))]), (false, [(AV.fz (FV.ifv 244 false [(FV.int .i64 1)]))])]) []) (ifB (decide ((IntKind.wrap .u64 ((IntKind.wrap .u64 (n13 * (IntKind.wrap .u64 16))) + (IntKind.wrap .u64 (IntKind.wrap .u8 ((IntKind.wrap .u8 (n33 - 97)) + 10))))) < (IntKind.wrap .u64 (n13 * (IntKind.wrap .u64 16))))) (R (TV.tup [(false, [(AV.fz (FV.int .u64 (IntKind.wrap .u64 ((IntKind.wrap .u64 (1 * (2 ^ (min (Int.toNat (IntKind.wrap .u64 32)) 64)))) - 1))))]), (false, [(AV.fz (FV.ifv 244 false [(FV.int .i64 1)]))])]) []) (ifB (decide ((IntKind.wrap .u64 ((IntKind.wrap .u64 (1 * (2 ^ (min (Int.toNat (IntKind.wrap .u64 32)) 64)))) - 1)) < (IntKind.wrap .u64 ((IntKind.wrap .u64 (n13 * (IntKind.wrap .u64 16))) + (IntKind.wrap .u64 (IntKind.wrap .u8 ((IntKind.wrap .u8 (n33 - 97)) + 10))))))) (R (TV.tup [(false, [(AV.fz (FV.int .u64 (IntKind.wrap .u64 ((IntKind.wrap .u64 (1 * (2 ^ (min (Int.toNat (IntKind.wrap .u64 32)) 64)))) - 1))))]), (false, [(AV.fz (FV.ifv 244 false [(FV.int .i64 1)]))])]) []) (internal_strconv_ParseUint_L0 R s (IntKind.wrap .u64 ((IntKind.wrap .u64 (n13 * (IntKind.wrap .u64 16))) + (IntKind.wrap .u64 (IntKind.wrap .u8 ((IntKind.wrap .u8 (n33 - 97)) + 10))))) (IntKind.wrap .i64 (i + 1))))))))) (R (TV.tup [(false, [(AV.fz (FV.int .u64 0))]), (false, [(AV.fz (FV.ifv 244 false [(FV.int .i64 2)]))])]) [])))) (R (TV.tup [(false, [(AV.fz (FV.int .u64 0))]), (false, [(AV.fz (FV.ifv 244 false [(FV.int .i64 2)]))])]) []))))) (ifB (decide ((48 : Int) ≤ n27)) (ifB (decide (n27 ≤ 57)) (ifB (decide ((IntKind.wrap .u8 16) ≤ (IntKind.wrap .u8 (n27 - 48)))) (R (TV.tup [(false, [(AV.fz (FV.int .u64 0))]), (false, [(AV.fz (FV.ifv 244 false [(FV.int .i64 2)]))])]) []) (ifB (decide ((1152921504606846976 : Int) ≤ n13)) (R (TV.tup [(false, [(AV.fz (FV.int .u64 (IntKind.wrap .u64 ((IntKind.wrap .u64 (1 * (2 ^ (min (Int.toNat (IntKind.wrap .u64 32)) 64)))) - 1))))]), (false, [(AV.fz (FV.ifv 244 false [(FV.int .i64 1)]))])]) []) (ifB (decide ((IntKind.wrap .u64 ((IntKind.wrap .u64 (n13 * (IntKind.wrap .u64 16))) + (IntKind.wrap .u64 (IntKind.wrap .u8 (n27 - 48))))) < (IntKind.wrap .u64 (n13 * (IntKind.wrap .u64 16))))) (R (TV.tup [(false, [(AV.fz (FV.int .u64 (IntKind.wrap .u64 ((IntKind.wrap .u64 (1 * (2 ^ (min (Int.toNat (IntKind.wrap .u64 32)) 64)))) - 1))))]), (false, [(AV.fz (FV.ifv 244 false [(FV.int .i64 1)]))])]) []) (ifB (decide ((IntKind.wrap .u64 ((IntKind.wrap .u64 (1 * (2 ^ (min (Int.toNat (IntKind.wrap .u64 32)) 64)))) - 1)) < (IntKind.wrap .u64 ((IntKind.wrap .u64 (n13 * (IntKind.wrap .u64 16))) + (IntKind.wrap .u64 (IntKind.wrap .u8 (n27 - 48))))))) (R (TV.tup [(false, [(AV.fz (FV.int .u64 (IntKind.wrap .u64 ((IntKind.wrap .u64 (1 * (2 ^ (min (Int.toNat (IntKind.wrap .u64 32)) 64)))) - 1))))]), (false, [(AV.fz (FV.ifv 244 false [(FV.int .i64 1)]))])]) []) (internal_strconv_ParseUint_L0 R s (IntKind.wrap .u64 ((IntKind.wrap .u64 (n13 * (IntKind.wrap .u64 16))) + (IntKind.wrap .u64 (IntKind.wrap .u8 (n27 - 48))))) (IntKind.wrap .i64 (i + 1))))))) (∃ n34 : Int, ((Fn Tryz.prog 224 [(TV.one (AV.fz (FV.int .u8 n27)))] [] (TV.one (AV.fz (FV.int .u8 n34))) []) ∧ (ifB (decide ((97 : Int) ≤ n34)) (∃ n35 : Int, ((Fn Tryz.prog 224 [(TV.one (AV.fz (FV.int .u8 n27)))] [] (TV.one (AV.fz (FV.int .u8 n35))) []) ∧ (ifB (decide (n35 ≤ 122)) (∃ n36 : Int, ((Fn Tryz.prog 224 [(TV.one (AV.fz (FV.int .u8 n27)))] [] (TV.one (AV.fz (FV.int .u8 n36))) []) ∧ (ifB (decide ((IntKind.wrap .u8 16) ≤ (IntKind.wrap .u8 ((IntKind.wrap .u8 (n36 - 97)) + 10)))) (R (TV.tup [(false, [(AV.fz (FV.int .u64 0))]), (false, [(AV.fz (FV.ifv 244 false [(FV.int .i64 2)]))])]) []) (ifB (decide ((1152921504606846976 : Int) ≤ n13)) (R (TV.tup [(false, [(AV.fz (FV.int .u64 (IntKind.wrap .u64 ((IntKind.wrap .u64 (1 * (2 ^ (min (Int.toNat (IntKind.wrap .u64 32)) 64)))) - 1))))]), (false, [(AV.fz (FV.ifv 244 false [(FV.int .i64 1)]))])]) []) (ifB (decide ((IntKind.wrap .u64 ((IntKind.wrap .u64 (n13 * (IntKind.wrap .u64 16))) + (IntKind.wrap .u64 (IntKind.wrap .u8 ((IntKind.wrap .u8 (n36 - 97)) + 10))))) < (IntKind.wrap .u64 (n13 * (IntKind.wrap .u64 16))))) (R (TV.tup [(false, [(AV.fz (FV.int .u64 (IntKind.wrap .u64 ((IntKind.wrap .u64 (1 * (2 ^ (min (Int.toNat (IntKind.wrap .u64 32)) 64)))) - 1))))]), (false, [(AV.fz (FV.ifv 244 false [(FV.int .i64 1)]))])]) []) (ifB (decide ((IntKind.wrap .u64 ((IntKind.wrap .u64 (1 * (2 ^ (min (Int.toNat (IntKind.wrap .u64 32)) 64)))) - 1)) < (IntKind.wrap .u64 ((IntKind.wrap .u64 (n13 * (IntKind.wrap .u64 16))) + (IntKind.wrap .u64 (IntKind.wrap .u8 ((IntKind.wrap .u8 (n36 - 97)) + 10))))))) (R (TV.tup [(false, [(AV.fz (FV.int .u64 (IntKind.wrap .u64 ((IntKind.wrap .u64 (1 * (2 ^ (min (Int.toNat (IntKind.wrap .u64 32)) 64)))) - 1))))]), (false, [(AV.fz (FV.ifv 244 false [(FV.int .i64 1)]))])]) []) (internal_strconv_ParseUint_L0 R s (IntKind.wrap .u64 ((IntKind.wrap .u64 (n13 * (IntKind.wrap .u64 16))) + (IntKind.wrap .u64 (IntKind.wrap .u8 ((IntKind.wrap .u8 (n36 - 97)) + 10))))) (IntKind.wrap .i64 (i + 1))))))))) (R (TV.tup [(false, [(AV.fz (FV.int .u64 0))]), (false, [(AV.fz (FV.ifv 244 false [(FV.int .i64 2)]))])]) [])))) (R (TV.tup [(false, [(AV.fz (FV.int .u64 0))]), (false, [(AV.fz (FV.ifv 244 false [(FV.int .i64 2)]))])]) []))))) (∃ n37 : Int, ((Fn Tryz.prog 224 [(TV.one (AV.fz (FV.int .u8 n27)))] [] (TV.one (AV.fz (FV.int .u8 n37))) []) ∧ (ifB (decide ((97 : Int) ≤ n37)) (∃ n38 : Int, ((Fn Tryz.prog 224 [(TV.one (AV.fz (FV.int .u8 n27)))] [] (TV.one (AV.fz (FV.int .u8 n38))) []) ∧ (ifB (decide (n38 ≤ 122)) (∃ n39 : Int, ((Fn Tryz.prog 224 [(TV.one (AV.fz (FV.int .u8 n27)))] [] (TV.one (AV.fz (FV.int .u8 n39))) []) ∧ (ifB (decide ((IntKind.wrap .u8 16) ≤ (IntKind.wrap .u8 ((IntKind.wrap .u8 (n39 - 97)) + 10)))) (R (TV.tup [(false, [(AV.fz (FV.int .u64 0))]), (false, [(AV.fz (FV.ifv 244 false [(FV.int .i64 2)]))])]) []) (ifB (decide ((1152921504606846976 : Int) ≤ n13)) (R (TV.tup [(false, [(AV.fz (FV.int .u64 (IntKind.wrap .u64 ((IntKind.wrap .u64 (1 * (2 ^ (min (Int.toNat (IntKind.wrap .u64 32)) 64)))) - 1))))]), (false, [(AV.fz (FV.ifv 244 false [(FV.int .i64 1)]))])]) []) (ifB (decide ((IntKind.wrap .u64 ((IntKind.wrap .u64 (n13 * (IntKind.wrap .u64 16))) + (IntKind.wrap .u64 (IntKind.wrap .u8 ((IntKind.wrap .u8 (n39 - 97)) + 10))))) < (IntKind.wrap .u64 (n13 * (IntKind.wrap .u64 16))))) (R (TV.tup [(false, [(AV.fz (FV.int .u64 (IntKind.wrap .u64 ((IntKind.wrap .u64 (1 * (2 ^ (min (Int.toNat (IntKind.wrap .u64 32)) 64)))) - 1))))]), (false, [(AV.fz (FV.ifv 244 false [(FV.int .i64 1)]))])]) []) (ifB (decide ((IntKind.wrap .u64 ((IntKind.wrap .u64 (1 * (2 ^ (min (Int.toNat (IntKind.wrap .u64 32)) 64)))) - 1)) < (IntKind.wrap .u64 ((IntKind.wrap .u64 (n13 * (IntKind.wrap .u64 16))) + (IntKind.wrap .u64 (IntKind.wrap .u8 ((IntKind.wrap .u8 (n39 - 97)) + 10))))))) (R (TV.tup [(false, [(AV.fz (FV.int .u64 (IntKind.wrap .u64 ((IntKind.wrap .u64 (1 * (2 ^ (min (Int.toNat (IntKind.wrap .u64 32)) 64)))) - 1))))]), (false, [(AV.fz (FV.ifv 244 false [(FV.int .i64 1)]))])]) []) (internal_strconv_ParseUint_L0 R s (IntKind.wrap .u64 ((IntKind.wrap .u64 (n13 * (IntKind.wrap .u64 16))) + (IntKind.wrap .u64 (IntKind.wrap .u8 ((IntKind.wrap .u8 (n39 - 97)) + 10))))) (IntKind.wrap .i64 (i + 1))))))))) (R (TV.tup [(false, [(AV.fz (FV.int .u64 0))]), (false, [(AV.fz (FV.ifv 244 false [(FV.int .i64 2)]))])]) [])))) (R (TV.tup [(false, [(AV.fz (FV.int .u64 0))]), (false, [(AV.fz (FV.ifv 244 false [(FV.int .i64 2)]))])]) []))))))))) (R (TV.tup [(false, [(AV.fz (FV.int .u64 n13))]), (false, [(AV.fz (FV.ifc false))])]) []))
theorem internal_strconv_ParseUint_l0 {R : TV → List Ob → Prop} {s : ByteArray} {n13 : Int} {i : Int} (h : internal_strconv_ParseUint_R0 R s n13 i) : internal_strconv_ParseUint_L0 R s n13 i :=
 LoopAt.by_tr (by kernel_rfl) (by kernel_rfl) h
def internal_strconv_ParseUint_H (R : TV → List Ob → Prop) (s : ByteArray) : Prop :=
 (ifB ((ByteArray.toList s) == (ByteArray.toList (ByteArray.mk #[]))) (R (TV.tup [(false, [(AV.fz (FV.int .u64 0))]), (false, [(AV.fz (FV.ifv 244 false [(FV.int .i64 2)]))])]) []) (((0 : Int) ≤ (IntKind.wrap .u64 32)) ∧ (internal_strconv_ParseUint_L0 R s 0 0)))
theorem internal_strconv_ParseUint_fn (s : ByteArray) {r : TV} {h : List Ob} (H : internal_strconv_ParseUint_H (fun r' h' => r' = r ∧ h' = h) s) : Fn Tryz.prog 212 [(TV.one (AV.fz (FV.str s))), (TV.one (AV.fz (FV.int .i64 16))), (TV.one (AV.fz (FV.int .i64 32)))] [] r h :=
 Fn.by_tr (M := (modeC [] [])) (lv := internal_strconv_ParseUint_lv) (own := none) (F := Tryz.f212) (by kernel_rfl) (by kernel_rfl) (by first | decide | simp) (fun _ _ h => h) (by kernel_rfl) H
end
section
def hexA : List Int → Int → Int
 | [], n => n
 | c :: r, n => hexA r (n * 16 + hexD c)
def hexOk (l : List Int) : Bool := l.all fun c => decide (0 ≤ hexD c)
theorem hexR_eq : ∀ (l : List Int) (n : Int), hexR l n = if hexOk l = true then (if scalB (hexA l n) = true then hexA l n else -1) else -1
 | [], n => rfl
 | c :: r, n => by
  have ih := hexR_eq r (n * 16 + hexD c)
  unfold hexR hexA
  by_cases h : hexD c < 0
  ·rw [if_pos h, if_neg]
   unfold hexOk
   simp
   omega
  ·rw [if_neg h, ih]
   have : hexOk (c :: r) = hexOk r := by
    unfold hexOk
    simp
    omega
   rw [this]
theorem hexD_lt (c : Int) : hexD c < 16 := by
 unfold hexD
 repeat' split
 all_goals omega
theorem hexA_bound : ∀ (l : List Int) (n B : Int), hexOk l = true → 0 ≤ n → n < B → 0 ≤ hexA l n ∧ hexA l n < B * 16 ^ l.length
 | [], n, B, h, h0, h1 => by simp [hexA, h0, h1]
 | c :: r, n, B, h, h0, h1 => by
  unfold hexOk at h
  simp only [List.all_cons, Bool.and_eq_true, decide_eq_true_eq] at h
  have := hexD_lt c
  have ih := hexA_bound r (n * 16 + hexD c) (B * 16) h.2 (by omega) (by omega)
  unfold hexA
  rw [List.length_cons, Int.pow_succ, Int.mul_comm (16 ^ r.length) 16, ← Int.mul_assoc]
  exact ih
theorem hex_tab : ∀ n : Fin 256, ([48, 49, 50, 51, 52, 53, 54, 55, 56, 57, 97, 98, 99, 100, 101, 102, 65, 66, 67, 68, 69, 70] : List UInt8).contains (UInt8.ofNat n.val) = decide (0 ≤ hexD (n.val : Int)) := by decide +kernel
theorem all_hex {X : List Int} (hX : Bytes X) : (X.map fun n => UInt8.ofNat n.toNat).all (([48, 49, 50, 51, 52, 53, 54, 55, 56, 57, 97, 98, 99, 100, 101, 102, 65, 66, 67, 68, 69, 70] : List UInt8).contains ·) = hexOk X := by
 unfold hexOk
 rw [Bool.eq_iff_iff, List.all_map, List.all_eq_true, List.all_eq_true]
 refine forall_congr' fun x => ⟨fun h hx => ?_, fun h hx => ?_⟩
 all_goals
  have h1 := h hx
  have h2 := hX x hx
  have h3 := hex_tab ⟨x.toNat, by omega⟩
  simp only at h3
  rw [show ((x.toNat : Nat) : Int) = x by omega] at h3
  simp only [Function.comp_apply] at h1 ⊢
 ·rw [← h3]; exact h1
 ·rw [h3]; exact h1
theorem trim_hex {X : List Int} (hX : Bytes X) : ((ByteArray.toList ⟨(Lib.trimS (bytesOf X).data.toList (ByteArray.mk #[48, 49, 50, 51, 52, 53, 54, 55, 56, 57, 97, 98, 99, 100, 101, 102, 65, 66, 67, 68, 69, 70]).data.toList).toArray⟩) == ByteArray.toList (ByteArray.mk #[])) = hexOk X := by
 rw [ByteArray.toList_eq, ByteArray.toList_eq, ← all_hex hX, data_of]
 generalize X.map (fun n => UInt8.ofNat n.toNat) = l
 rw [Bool.eq_iff_iff, ← trim_nil, beq_iff_eq]
 rfl
def lowV (c : Int) : Int := IntKind.wrap .u8 (((BitVec.toNat ((BitVec.ofInt 8 c) ||| (BitVec.ofInt 8 32))) : Nat) : Int)
theorem low_tab : ∀ n : Fin 256, 0 ≤ hexD (n.val : Int) → ¬ (48 ≤ (n.val : Int) ∧ (n.val : Int) ≤ 57) → lowV (n.val : Int) = hexD (n.val : Int) + 87 := by decide +kernel
theorem lower_ok (c : Int) : Fn Tryz.prog 224 [fzI .u8 c] [] (fzI .u8 (lowV c)) [] := by
 refine internal_strconv_lower_fn _ ?_
 unfold internal_strconv_lower_H
 exact ⟨rfl, rfl⟩
theorem ifB_t {b : Bool} {y n : Prop} (h : b = true) (hy : y) : ifB b y n := by rw [h]; exact hy
theorem ifB_f {b : Bool} {y n : Prop} (h : b = false) (hn : n) : ifB b y n := by rw [h]; exact hn
abbrev puT (n : Int) (b : Bool) : TV := .tup [(false, [.fz (.int .u64 n)]), (false, [.fz (.ifc b)])]
theorem pHex_loop (T : List Int) (hT : Bytes T) (hlen : T.length ≤ 6) (hok : hexOk T = true) (R : TV → List Ob → Prop) : ∀ (m i : Nat) (n : Int), T.length - i = m → i ≤ T.length → 0 ≤ n → n < 16 ^ i → R (puT (hexA (T.drop i) n) false) [] → internal_strconv_ParseUint_L0 R (bytesOf T) n i := by
 have p6 : (16 : Int) ^ 6 = 16777216 := by decide
 have hp : ∀ i : Nat, i ≤ 6 → (16 : Int) ^ i ≤ 16777216 := fun i hi => by rw [← p6]; exact pow_mono (by omega) hi
 intro m
 induction m with
 | zero =>
  intro i n hi hle h0 h1 hR
  refine internal_strconv_ParseUint_l0 ?_
  unfold internal_strconv_ParseUint_R0
  rw [map_bs, bs_of hT, ints_len]
  refine ifB_f (by simp; omega) ?_
  rw [List.drop_eq_nil_of_le (by omega)] at hR
  exact hR
 | succ m ih =>
  intro i n hi hle h0 h1 hR
  refine internal_strconv_ParseUint_l0 ?_
  unfold internal_strconv_ParseUint_R0
  have hlt : i < T.length := by omega
  have hb := hT.rd (by omega) i
  have hpi := hp i (by omega)
  have hp1 : (16 : Int) ^ (i + 1) = 16 ^ i * 16 := Int.pow_succ 16 i
  have hd0 : 0 ≤ hexD (rd T i) := by
   unfold hexOk at hok
   rw [List.all_eq_true] at hok
   have := hok _ (List.getElem_mem hlt)
   rw [← rd_at T i hlt] at this
   simpa using this
  have hd1 := hexD_lt (rd T i)
  have hlow := low_tab ⟨(rd T i).toNat, by omega⟩
  simp only at hlow
  rw [show (((rd T i).toNat : Nat) : Int) = rd T i by omega] at hlow
  have h95 : rd T i ≠ 95 := fun e => by rw [e] at hd0; exact absurd hd0 (by decide)
  rw [drop_rd' T i hlt] at hR
  unfold hexA at hR
  have next : internal_strconv_ParseUint_L0 R (bytesOf T) (n * 16 + hexD (rd T i)) (IntKind.wrap .i64 ((i : Int) + 1)) := by
   rw [w64 (by omega) (by omega)]
   have := ih (i + 1) (n * 16 + hexD (rd T i)) (by omega) (by omega) (by omega) (by rw [hp1]; omega) hR
   simpa using this
  have e16 : IntKind.wrap .u8 16 = 16 := rfl
  have e16' : IntKind.wrap .u64 16 = 16 := rfl
  have em : IntKind.wrap .u64 ((IntKind.wrap .u64 (1 * (2 ^ (min (Int.toNat (IntKind.wrap .u64 32)) 64)))) - 1) = 4294967295 := by decide +kernel
  rw [map_bs, bs_of hT, ints_len, Int.toNat_natCast]
  refine ifB_t (by simp; omega) ⟨by omega, rd T i, by simp [ints, some_rd hlt], ifB_f (by simpa using h95) ?_⟩
  rw [e16, e16', em, wu64 (n := n * 16) (by omega) (by omega)]
  have letters : ¬ (48 ≤ rd T i ∧ rd T i ≤ 57) → lowV (rd T i) = hexD (rd T i) + 87 ∧ 10 ≤ hexD (rd T i) := by
   intro h
   refine ⟨hlow hd0 h, ?_⟩
   unfold hexD at hd0 ⊢
   rw [if_neg h] at hd0 ⊢
   revert hd0
   repeat' split
   all_goals omega
  by_cases hdig : 48 ≤ rd T i ∧ rd T i ≤ 57
  ·have hD : hexD (rd T i) = rd T i - 48 := by unfold hexD; rw [if_pos hdig]
   rw [hD] at next
   refine ifB_t (by simp; omega) (ifB_t (by simp; omega) ?_)
   rw [wu8 (n := rd T i - 48) (by omega) (by omega), wu64 (n := rd T i - 48) (by omega) (by omega), wu64 (n := n * 16 + (rd T i - 48)) (by omega) (by omega)]
   exact ifB_f (by simp; omega) (ifB_f (by simp; omega) (ifB_f (by simp; omega) (ifB_f (by simp; omega) next)))
  ·obtain ⟨hl, h10⟩ := letters hdig
   have hlo := lower_ok (rd T i)
   rw [hl] at hlo
   by_cases h48 : 48 ≤ rd T i
   ·refine ifB_t (by simpa using h48) (ifB_f (by simp; omega) ⟨_, hlo, ?_⟩)
    refine ifB_t (by simp; omega) ⟨_, hlo, ifB_t (by simp; omega) ⟨_, hlo, ?_⟩⟩
    rw [wu8 (n := hexD (rd T i) + 87 - 97) (by omega) (by omega), wu8 (n := hexD (rd T i) + 87 - 97 + 10) (by omega) (by omega), wu64 (n := hexD (rd T i) + 87 - 97 + 10) (by omega) (by omega), wu64 (n := n * 16 + (hexD (rd T i) + 87 - 97 + 10)) (by omega) (by omega)]
    rw [show n * 16 + (hexD (rd T i) + 87 - 97 + 10) = n * 16 + hexD (rd T i) by omega]
    exact ifB_f (by simp; omega) (ifB_f (by simp; omega) (ifB_f (by simp; omega) (ifB_f (by simp; omega) next)))
   ·refine ifB_f (by simp; omega) ⟨_, hlo, ?_⟩
    refine ifB_t (by simp; omega) ⟨_, hlo, ifB_t (by simp; omega) ⟨_, hlo, ?_⟩⟩
    rw [wu8 (n := hexD (rd T i) + 87 - 97) (by omega) (by omega), wu8 (n := hexD (rd T i) + 87 - 97 + 10) (by omega) (by omega), wu64 (n := hexD (rd T i) + 87 - 97 + 10) (by omega) (by omega), wu64 (n := n * 16 + (hexD (rd T i) + 87 - 97 + 10)) (by omega) (by omega)]
    rw [show n * 16 + (hexD (rd T i) + 87 - 97 + 10) = n * 16 + hexD (rd T i) by omega]
    exact ifB_f (by simp; omega) (ifB_f (by simp; omega) (ifB_f (by simp; omega) (ifB_f (by simp; omega) next)))
end
section
open Go Go.RowKit
theorem chs_more : ∀ (f at_ : Nat) (l acc : List Int), (chs f l at_ acc).2 = -1 → l.length - at_ < f → acc.length ≤ (chs f l at_ acc).1.length ∧ (at_ < l.length → acc.length < (chs f l at_ acc).1.length)
 | 0, at_, l, acc, h, hf => by omega
 | f + 1, at_, l, acc, h, hf => by
  unfold chs at h ⊢
  split
  ·exact ⟨Nat.le_refl _, fun h => by omega⟩
  ·rename_i h1
   rw [if_neg h1] at h
   split
   ·rename_i h2
    rw [if_pos h2] at h
    simp only at h
    omega
   ·rename_i h2
    rw [if_neg h2] at h
    have hf2 : l.length - (at_ + (ch1 (l.drop at_)).2.toNat) < f ∨ (ch1 (l.drop at_)).2.toNat = 0 := by omega
    rcases hf2 with hf2 | hf2
    ·have := (chs_more f _ l _ h hf2).1
     rw [List.length_append, List.length_singleton] at this
     exact ⟨by omega, fun _ => by omega⟩
    ·exfalso
     have h3 : (ch1 (l.drop at_)).2 < 0 := by omega
     revert h3
     unfold ch1 chN
     repeat' split
     all_goals (simp only; omega)
def oneB (T : List Int) : Bool := decide (T ≠ [] ∧ (ch1 T).2 = (T.length : Int))
theorem chars_one {T : List Int} (hT : Bytes T) : ((chars T).2 = -1 ∧ (chars T).1.length = 1) ↔ oneB T = true := by
 unfold oneB
 rw [decide_eq_true_eq]
 cases T with
 | nil => simp [chars, chs]
 | cons x r =>
  have hb := ch1_bounds hT (by simp)
  have hd : (x :: r).drop 0 = x :: r := rfl
  unfold chars
  rw [show (x :: r).length + 1 = (r.length + 1) + 1 from rfl]
  unfold chs
  rw [if_neg (by simp), hd]
  by_cases h0 : (ch1 (x :: r)).2 = 0
  ·rw [if_pos h0]
   simp only [List.length_cons] at hb ⊢
   constructor
   ·rintro ⟨h, _⟩; simp at h
   ·rintro ⟨_, h⟩; omega
  ·rw [if_neg h0]
   constructor
   ·rintro ⟨h1, h2⟩
    refine ⟨by simp, ?_⟩
    by_cases hlt : 0 + (ch1 (x :: r)).2.toNat < (x :: r).length
    ·have := (chs_more (r.length + 1) _ _ _ h1 (by simp at hb ⊢; omega)).2 hlt
     simp only [List.length_append, List.length_nil, List.length_singleton] at this
     omega
    ·omega
   ·rintro ⟨_, h⟩
    unfold chs
    rw [if_pos (by omega)]
    simp
theorem chars_val {T : List Int} (h : oneB T = true) : rd (chars T).1 0 = (ch1 T).1 := by
 unfold oneB at h
 rw [decide_eq_true_eq] at h
 cases T with
 | nil => simp at h
 | cons x r =>
  have hd : (x :: r).drop 0 = x :: r := rfl
  unfold chars
  rw [show (x :: r).length + 1 = (r.length + 1) + 1 from rfl]
  unfold chs
  rw [if_neg (by simp), hd, if_neg (by have := h.2; simp at this; omega)]
  unfold chs
  rw [if_pos (by omega)]
  rfl
theorem namedV_one {T : List Int} (hT : Bytes T) (h : oneB T = true) : rd (chars T).1 0 = (ch1 T).1 ∧ 0 ≤ (ch1 T).1 := by
 refine ⟨chars_val h, ?_⟩
 unfold oneB at h
 rw [decide_eq_true_eq] at h
 exact (ch1_bounds hT h.1).1
abbrev namT (v : Int) : TV := .tup [(false, [.fz (.int .i64 (if 0 ≤ v then v else 0))]), (false, [.fz (.bool (decide (0 ≤ v)))])]
theorem namT_ok {v : Int} (h : 0 ≤ v) : namT v = .tup [(false, [.fz (.int .i64 v)]), (false, [.fz (.bool true)])] := by unfold namT; rw [if_pos h, decide_eq_true h]
theorem namT_bad {v : Int} (h : v < 0) : namT v = .tup [(false, [.fz (.int .i64 0)]), (false, [.fz (.bool false)])] := by unfold namT; rw [if_neg (by omega), decide_eq_false (by omega)]
theorem nm_l {T : List Int} (hT : Bytes T) (a : Array UInt8) (l : List Int) (hl : Bytes l) (h : ByteArray.mk a = bytesOf l) : (ByteArray.toList (ByteArray.mk a) == ByteArray.toList (bytesOf T)) = decide (l = T) := by
 rw [h]; exact eq_bytes hl hT
theorem nm0 : Bytes [115, 112, 97, 99, 101] ∧ ByteArray.mk #[115, 112, 97, 99, 101] = bytesOf [115, 112, 97, 99, 101] := ⟨by intro x hx; simp at hx; omega, by decide +kernel⟩
theorem nm1 : Bytes [110, 101, 119, 108, 105, 110, 101] ∧ ByteArray.mk #[110, 101, 119, 108, 105, 110, 101] = bytesOf [110, 101, 119, 108, 105, 110, 101] := ⟨by intro x hx; simp at hx; omega, by decide +kernel⟩
theorem nm2 : Bytes [116, 97, 98] ∧ ByteArray.mk #[116, 97, 98] = bytesOf [116, 97, 98] := ⟨by intro x hx; simp at hx; omega, by decide +kernel⟩
theorem nm3 : Bytes [114, 101, 116, 117, 114, 110] ∧ ByteArray.mk #[114, 101, 116, 117, 114, 110] = bytesOf [114, 101, 116, 117, 114, 110] := ⟨by intro x hx; simp at hx; omega, by decide +kernel⟩
theorem nm4 : Bytes [110, 117, 108, 108] ∧ ByteArray.mk #[110, 117, 108, 108] = bytesOf [110, 117, 108, 108] := ⟨by intro x hx; simp at hx; omega, by decide +kernel⟩
theorem nm5 : Bytes [100, 101, 108, 101, 116, 101] ∧ ByteArray.mk #[100, 101, 108, 101, 116, 101] = bytesOf [100, 101, 108, 101, 116, 101] := ⟨by intro x hx; simp at hx; omega, by decide +kernel⟩
theorem slPrefix_ok (T : List Int) (hT : Bytes T) (hlen : T.length ≤ 16777216) : Fn Tryz.prog 165 [.one (.fz (.str (bytesOf T))), .one (.fz (.str (ByteArray.mk #[120])))] [] (fzB (decide (T.head? = some 120))) [] := by
 refine internal_stringslite_HasPrefix_fn _ _ ?_
 obtain ⟨R, hR, hRe⟩ := exR (fzB (decide (T.head? = some 120))); rw [hRe]; clear hRe
 unfold internal_stringslite_HasPrefix_H
 have e1 : ((ByteArray.size (ByteArray.mk #[120]) : Nat) : Int) = 1 := rfl
 rw [e1, size_of, dec_t, dec_f, show Int.toNat 1 = 1 from rfl]
 refine ⟨fun h => ⟨⟨by omega, by omega⟩, ?_⟩, fun h => ?_⟩
 ·have e2 : ByteArray.mk #[120] = bytesOf [120] := by decide +kernel
  have hb : Bytes (((T.drop 0).take (1 - 0))) := fun x hx => hT x (List.mem_of_mem_drop (List.mem_of_mem_take hx))
  rw [extract_of, e2, eq_bytes hb (by intro x hx; simp at hx; omega)]
  cases T with
  | nil => simp at h
  | cons x r => simpa using hR
 ·cases T with
  | nil => simpa using hR
  | cons x r => simp at h; omega
abbrev cutR (T : List Int) : TV := .tup [(false, [.fz (.str (bytesOf (if T.head? = some 120 then T.drop 1 else T)))]), (false, [.fz (.bool (decide (T.head? = some 120)))])]
theorem slCut_ok (T : List Int) (hT : Bytes T) (hlen : T.length ≤ 16777216) : Fn Tryz.prog 211 [.one (.fz (.str (bytesOf T))), .one (.fz (.str (ByteArray.mk #[120])))] [] (cutR T) [] := by
 refine internal_stringslite_CutPrefix_fn _ _ ?_
 obtain ⟨R, hR, hRe⟩ := exR (cutR T); rw [hRe]; clear hRe
 unfold internal_stringslite_CutPrefix_H
 refine ⟨_, slPrefix_ok T hT hlen, ?_⟩
 have e1 : ((ByteArray.size (ByteArray.mk #[120]) : Nat) : Int) = 1 := rfl
 unfold cutR at hR
 rw [not_t, not_f, dec_f, dec_t, e1, size_of, show Int.toNat 1 = 1 from rfl]
 refine ⟨fun h => ?_, fun h => ?_⟩
 ·rw [if_neg h, decide_eq_false h] at hR; exact hR
 ·rw [if_pos h, decide_eq_true h] at hR
  have hl : 1 ≤ T.length := by cases T with
   | nil => simp at h
   | cons x r => simp
  refine ⟨⟨by omega, by omega⟩, ?_⟩
  rw [extract_of, List.take_of_length_le (by simp)]
  exact hR
theorem cutPrefix_ok (T : List Int) (hT : Bytes T) (hlen : T.length ≤ 16777216) : Fn Tryz.prog 185 [.one (.fz (.str (bytesOf T))), .one (.fz (.str (ByteArray.mk #[120])))] [] (cutR T) [] := by
 refine strings_CutPrefix_fn _ _ ?_
 unfold strings_CutPrefix_H
 exact ⟨_, _, slCut_ok T hT hlen, rfl, rfl⟩
theorem pHexI_ok (T : List Int) (hT : Bytes T) (hlen : T.length ≤ 6) (hne : T ≠ []) (hok : hexOk T = true) : Fn Tryz.prog 212 [.one (.fz (.str (bytesOf T))), fzI .i64 16, fzI .i64 32] [] (puT (hexA T 0) false) [] := by
 refine internal_strconv_ParseUint_fn _ ?_
 unfold internal_strconv_ParseUint_H
 have e : (ByteArray.toList (bytesOf T) == ByteArray.toList (ByteArray.mk #[])) = false := by
  have := eq_bytes (m := []) hT Bytes.nil
  rw [show (ByteArray.mk #[]) = bytesOf [] from rfl, this]
  simpa using hne
 refine ifB_f e ⟨by decide, ?_⟩
 exact pHex_loop T hT hlen hok _ _ 0 0 rfl (Nat.zero_le _) (by omega) (by simp) ⟨rfl, rfl⟩
theorem pHex_ok (T : List Int) (hT : Bytes T) (hlen : T.length ≤ 6) (hne : T ≠ []) (hok : hexOk T = true) : Fn Tryz.prog 186 [.one (.fz (.str (bytesOf T))), fzI .i64 16, fzI .i64 32] [] (puT (hexA T 0) false) [] := by
 refine strconv_ParseUint_fn _ ?_
 unfold strconv_ParseUint_H
 exact ⟨_, _, pHexI_ok T hT hlen hne hok, ifB_f rfl ⟨rfl, rfl⟩⟩
theorem DecodeInString_fn (T : List Int) : Fn Tryz.prog 87 [.one (.fz (.str (bytesOf T)))] [] (.tup [(false, [.fz (.int .i32 (deR T))]), (false, [.fz (.int .i64 (deN T))])]) [] := by
 intro ext w locs vals H hsz hrep
 obtain ⟨v, hv, hr⟩ := hrep 0 _ rfl
 have e : vals = #[v] := by
  apply Array.ext
  ·simpa using hsz
  ·intro i h1 h2
   have : i = 0 := by simp at h2; omega
   subst this
   rw [Array.getElem?_eq_getElem h1] at hv
   simpa using hv
 subst e
 replace hr : RF w (Bar ext locs []) (.str (bytesOf T)) v := hr
 cases hr
 refine (Tryz.utf8_DecodeRuneInString (bytesOf T) w (utf_tabs H.glob)).mono ?_
 rintro e w' ⟨rfl, hb⟩
 refine ⟨.tuple #[.int .i32 (deR T), .int .i64 (deN T)], locs, rfl, H.below hb, #[.int .i32 (deR T), .int .i64 (deN T)], rfl, rfl, fun i b' cs hi => ?_⟩
 match i with
 | 0 =>
  cases hi
  refine ⟨.int .i32 (deR T), rfl, [.int .i32 (deR T)], rfl, rfl, fun _ => rfl, fun j x hj => ?_⟩
  cases j with
  | zero => cases hj; exact ⟨_, rfl, .int _ _⟩
  | succ j => simp at hj
 | 1 =>
  cases hi
  refine ⟨.int .i64 (deN T), rfl, [.int .i64 (deN T)], rfl, rfl, fun _ => rfl, fun j x hj => ?_⟩
  cases j with
  | zero => cases hj; exact ⟨_, rfl, .int _ _⟩
  | succ j => simp at hj
 | i + 2 => simp at hi
theorem uNamed_ok (T : List Int) (hT : Bytes T) (hlen : T.length ≤ 16777216) : Fn Tryz.prog 159 [.one (.fz (.str (bytesOf T)))] [] (namT (namedV T)) [] := by
 refine utf_Named_fn _ ?_
 obtain ⟨R, hR, hRe⟩ := exR (namT (namedV T)); rw [hRe]; clear hRe
 unfold namedV at hR
 unfold utf_Named_H
 refine utf_Named_l0 ?_
 unfold utf_Named_R0
 refine ⟨fun _ => ⟨by omega, 32, ByteArray.mk #[115, 112, 97, 99, 101], rfl, ?_, ?_⟩, fun h => absurd h (by decide)⟩ <;> rw [nm_l hT _ _ nm0.1 nm0.2]
 ·exact fun h => (by rw [if_pos (of_decide_eq_true h).symm, namT_ok (by omega)] at hR; exact hR)
 intro n0
 replace n0 : ¬ T = [115, 112, 97, 99, 101] := fun h => of_decide_eq_false n0 h.symm
 rw [if_neg n0] at hR
 rw [w64 (by omega) (by omega)]
 refine utf_Named_l0 ?_
 unfold utf_Named_R0
 refine ⟨fun _ => ⟨by omega, 10, ByteArray.mk #[110, 101, 119, 108, 105, 110, 101], rfl, ?_, ?_⟩, fun h => absurd h (by decide)⟩ <;> rw [nm_l hT _ _ nm1.1 nm1.2]
 ·exact fun h => (by rw [if_pos (of_decide_eq_true h).symm, namT_ok (by omega)] at hR; exact hR)
 intro n1
 replace n1 : ¬ T = [110, 101, 119, 108, 105, 110, 101] := fun h => of_decide_eq_false n1 h.symm
 rw [if_neg n1] at hR
 rw [w64 (by omega) (by omega)]
 refine utf_Named_l0 ?_
 unfold utf_Named_R0
 refine ⟨fun _ => ⟨by omega, 9, ByteArray.mk #[116, 97, 98], rfl, ?_, ?_⟩, fun h => absurd h (by decide)⟩ <;> rw [nm_l hT _ _ nm2.1 nm2.2]
 ·exact fun h => (by rw [if_pos (of_decide_eq_true h).symm, namT_ok (by omega)] at hR; exact hR)
 intro n2
 replace n2 : ¬ T = [116, 97, 98] := fun h => of_decide_eq_false n2 h.symm
 rw [if_neg n2] at hR
 rw [w64 (by omega) (by omega)]
 refine utf_Named_l0 ?_
 unfold utf_Named_R0
 refine ⟨fun _ => ⟨by omega, 13, ByteArray.mk #[114, 101, 116, 117, 114, 110], rfl, ?_, ?_⟩, fun h => absurd h (by decide)⟩ <;> rw [nm_l hT _ _ nm3.1 nm3.2]
 ·exact fun h => (by rw [if_pos (of_decide_eq_true h).symm, namT_ok (by omega)] at hR; exact hR)
 intro n3
 replace n3 : ¬ T = [114, 101, 116, 117, 114, 110] := fun h => of_decide_eq_false n3 h.symm
 rw [if_neg n3] at hR
 rw [w64 (by omega) (by omega)]
 refine utf_Named_l0 ?_
 unfold utf_Named_R0
 refine ⟨fun _ => ⟨by omega, 0, ByteArray.mk #[110, 117, 108, 108], rfl, ?_, ?_⟩, fun h => absurd h (by decide)⟩ <;> rw [nm_l hT _ _ nm4.1 nm4.2]
 ·exact fun h => (by rw [if_pos (of_decide_eq_true h).symm, namT_ok (by omega)] at hR; exact hR)
 intro n4
 replace n4 : ¬ T = [110, 117, 108, 108] := fun h => of_decide_eq_false n4 h.symm
 rw [if_neg n4] at hR
 rw [w64 (by omega) (by omega)]
 refine utf_Named_l0 ?_
 unfold utf_Named_R0
 refine ⟨fun _ => ⟨by omega, 127, ByteArray.mk #[100, 101, 108, 101, 116, 101], rfl, ?_, ?_⟩, fun h => absurd h (by decide)⟩ <;> rw [nm_l hT _ _ nm5.1 nm5.2]
 ·exact fun h => (by rw [if_pos (of_decide_eq_true h).symm, namT_ok (by omega)] at hR; exact hR)
 intro n5
 replace n5 : ¬ T = [100, 101, 108, 101, 116, 101] := fun h => of_decide_eq_false n5 h.symm
 rw [if_neg n5] at hR
 rw [w64 (by omega) (by omega)]
 refine utf_Named_l0 ?_
 unfold utf_Named_R0
 refine ⟨fun h => absurd h (by decide), fun _ => ⟨_, _, DecodeInString_fn T, ?_⟩⟩
 rw [size_of]
 by_cases h1 : oneB T = true
 ·have hc := (chars_one hT).2 h1
  obtain ⟨q1, q2⟩ := namedV_one hT h1
  rw [if_pos hc, q1, namT_ok q2] at hR
  have h1' := h1
  unfold oneB at h1'
  rw [decide_eq_true_eq] at h1'
  have hl : T.length ≠ 0 := fun e => h1'.1 (List.length_eq_zero_iff.1 e)
  rcases de_ch1 hT h1'.1 with ⟨c1, c2, c3⟩ | ⟨c1, c2⟩
  ·rw [c1] at h1'; simp at h1'; omega
  ·have g1 : (ch1 T).1 = deR T := by rw [c1]
   have g2 : (ch1 T).2 = deN T := by rw [c1]
   have hb := ch1_bounds hT h1'.1
   rw [g1] at hR q2 hb
   simp only [beq_t, beq_f, dec_t, dec_f, bne_t, bne_f, w64 (n := deR T) (by omega) (by omega)]
   refine ⟨fun _ => ⟨fun _ => ⟨fun _ => hR, fun h => ⟨fun _ => hR, fun h => by omega⟩⟩, fun h => by omega⟩, fun h => by omega⟩
 ·have hc : ¬ ((chars T).2 = -1 ∧ (chars T).1.length = 1) := fun h => h1 ((chars_one hT).1 h)
  rw [if_neg hc] at hR
  have ht := hR
  have hx1 : T ≠ [120] := fun e => h1 (by rw [e]; decide +kernel)
  have head_rd' : (2 ≤ T.length ∧ rd T 0 = 120) → T.head? = some 120 := fun hx => by
   cases T with
   | nil => simp at hx
   | cons x r => simpa [rd] using hx.2
  have tailG : ∀ G : Prop, (R (namT (if 2 ≤ T.length ∧ rd T 0 = 120 then hexV (T.drop 1) else -1)) [] → G) → G := fun G h => h ht
  simp only [beq_t, beq_f, dec_t, dec_f, bne_t, bne_f]
  have no : ¬ (deN T = (T.length : Int) ∧ 0 < deN T ∧ (deR T ≠ 65533 ∨ 1 < deN T)) := by
   rintro ⟨a1, a2, a3⟩
   have hne : T ≠ [] := fun e => by rw [e] at a1 a2; simp at a1; omega
   rcases de_ch1 hT hne with ⟨c1, c2, c3⟩ | ⟨c1, c2⟩
   ·omega
   ·refine h1 ?_
    unfold oneB
    rw [decide_eq_true_eq, c1]
    exact ⟨hne, a1⟩
  refine ⟨fun a1 => ⟨fun a2 => ⟨fun a3 => absurd ⟨a1, a2, .inl a3⟩ no, fun a3 => ⟨fun a4 => absurd ⟨a1, a2, .inr a4⟩ no, fun a4 => ?_⟩⟩, fun a2 => ?_⟩, fun a1 => ?_⟩
  all_goals
   refine ⟨_, _, cutPrefix_ok T hT hlen, ?_⟩
   simp only [not_t, not_f, dec_t, dec_f]
   refine ⟨fun hp => ?_, fun hp => ?_⟩
   ·rw [if_neg (fun hx => hp (head_rd' hx)), namT_bad (by omega)] at ht; exact ht
   ·have hl : T ≠ [] := fun e => by rw [e] at hp; simp at hp
    have h120 : rd T 0 = 120 := by cases T with
     | nil => simp at hp
     | cons x r => simpa [rd] using hp
    rw [if_pos hp]
    simp only [size_of]
    have hl2 : 2 ≤ T.length := by
     cases T with
     | nil => simp at hl
     | cons x r => cases r with
      | nil => exact absurd (by simpa using hp) hx1
      | cons y r => simp
    rw [if_pos ⟨hl2, h120⟩] at ht
    unfold hexV at ht
    rw [List.length_drop] at ht ⊢
    refine ⟨fun h6 => ?_, fun h6 => ?_⟩
    ·rw [if_neg (by omega), namT_bad (by omega)] at ht; exact ht
    ·rw [if_pos (by omega), hexR_eq] at ht
     refine ⟨_, Trim_fn (bytesOf (T.drop 1)) _ (by rw [size_of]; simp; omega) (by decide) (by decide +kernel), ?_⟩
     rw [trim_hex (drop_bytes hT 1)]
     refine ⟨fun hx => ?_, fun hx => ?_⟩
     ·rw [if_neg (by rw [hx]; simp), namT_bad (by omega)] at ht; exact ht
     ·rw [if_pos hx] at ht
      have hb := hexA_bound (T.drop 1) 0 1 hx (by omega) (by omega)
      have p6 : (1 : Int) * 16 ^ (T.drop 1).length ≤ 16777216 := by
       have : (16 : Int) ^ 6 = 16777216 := by decide
       rw [Int.one_mul, ← this]
       exact pow_mono (by omega) (by simp; omega)
      refine ⟨_, _, pHex_ok (T.drop 1) (drop_bytes hT 1) (by simp; omega) (fun e => by have := congrArg List.length e; simp at this; omega) hx, ?_⟩
      refine ⟨fun h => absurd h (by decide), fun _ => ⟨_, uScalar_ok _, ?_⟩⟩
      rw [w64 (by omega) (by omega)]
      refine ⟨fun hs => ?_, fun hs => ?_⟩
      ·rw [if_neg (by rw [hs]; simp), namT_bad (by omega)] at ht; exact ht
      ·rw [if_pos hs, namT_ok (by omega)] at ht; exact ht
end
section
abbrev scM (t : List Int) (p : Nat) : List Ob := [.g 110 [.fz (.sl 1 (ints .i64 t)), .fz (.int .i64 ((p : Nat) : Int))]]
abbrev scP : TV := .one (.ptr 0 0 0 110)
theorem pkL_lt {l : List Int} {i : Nat} (h : i < l.length) : pkL l i = rd l i := if_pos h
theorem pkL_ge {l : List Int} {i : Nat} (h : l.length ≤ i) : pkL l i = -1 := if_neg (by omega)
theorem sLeft_ok (t : List Int) (p n : Nat) (hp : p ≤ 1000000000) (hn : n ≤ 1000000000) : Fn Tryz.prog 67 [scP, fzI .i64 ((n : Nat) : Int)] (scM t p) (fzB (decide (p + n ≤ t.length))) (scM t p) := by
 refine token_scanner_leftO_fn _ _ _ ?_
 obtain ⟨R, hR, hRe⟩ := exW (fzB (decide (p + n ≤ t.length))) (scM t p); rw [hRe]; clear hRe
 unfold token_scanner_leftO_H
 rw [w64 (by omega) (by omega), ints_len]
 have : decide ((p : Int) + (n : Int) ≤ (t.length : Int)) = decide (p + n ≤ t.length) := by rw [decide_eq_decide]; omega
 rw [this]
 exact hR _ (Wk.refl _)
theorem sPeek_ok (t : List Int) (p n : Nat) (hp : p ≤ 1000000000) (hn : n ≤ 1000000) : Fn Tryz.prog 101 [scP, fzI .i64 ((n : Nat) : Int)] (scM t p) (fzI .i64 (pkL t (p + n))) (scM t p) := by
 refine token_scanner_peekO_fn _ _ _ ?_
 obtain ⟨R, hR, hRe⟩ := exW (fzI .i64 (pkL t (p + n))) (scM t p); rw [hRe]; clear hRe
 unfold token_scanner_peekO_H
 have hl := sLeft_ok t p (n + 1) hp (by omega)
 rw [show ((n + 1 : Nat) : Int) = (n : Int) + 1 by omega] at hl
 rw [w64 (n := (n : Int) + 1) (by omega) (by omega)]
 refine ⟨_, _, _, hl, ?_⟩
 simp only [not_t, not_f, dec_t, dec_f, decide_eq_true_eq, decide_eq_false_iff_not]
 refine ⟨fun h => ?_, fun h => ?_⟩
 ·rw [pkL_ge (by omega)] at hR; exact hR _ (Wk.refl _)
 ·rw [pkL_lt (by omega)] at hR
  rw [w64 (by omega) (by omega)]
  exact ⟨by omega, rd t (p + n), by rw [show Int.toNat ((p : Int) + (n : Int)) = p + n by omega]; simp [ints, some_rd (show p + n < t.length by omega)], hR _ (Wk.refl _)⟩
theorem sBlanks_loop (t : List Int) (hlen : t.length ≤ 100000000) (R : TV → List Ob → Prop) : ∀ (m q : Nat), t.length - q = m → q ≤ t.length →
  ((∀ h', Wk h' (scM t (q + blC false (t.drop q))) → R (.tup []) h') → token_scanner_blanksO_L0 R (ints .i64 t) q) ∧
  ((∀ h', Wk h' (scM t (q + blC true (t.drop q))) → R (.tup []) h') → token_scanner_blanksO_L1 R (ints .i64 t) q) := by
 intro m
 induction m with
 | zero =>
  intro q hq hle
  have hd : t.drop q = [] := List.drop_eq_nil_of_le (by omega)
  have hp := sPeek_ok t q 0 (by omega) (by omega)
  rw [pkL_ge (by omega)] at hp
  have h0 : (∀ h', Wk h' (scM t q) → R (.tup []) h') → token_scanner_blanksO_L0 R (ints .i64 t) q := fun hR => by
   refine token_scanner_blanksO_l0 ?_
   unfold token_scanner_blanksO_R0
   refine ⟨_, _, _, hp, fun h => absurd h (by decide), fun _ => ⟨fun h => absurd h (by decide), fun _ => hR _ (Wk.refl _)⟩⟩
  refine ⟨fun hR => ?_, fun hR => ?_⟩
  ·rw [hd] at hR; exact h0 hR
  ·rw [hd] at hR
   refine token_scanner_blanksO_l1 ?_
   unfold token_scanner_blanksO_R1
   refine ⟨_, _, _, sLeft_ok t q 1 (by omega) (by omega), fun h => ?_, fun _ => h0 hR⟩
   simp at h; omega
 | succ m ih =>
  intro q hq hle
  have hlt : q < t.length := by omega
  have hp := sPeek_ok t q 0 (by omega) (by omega)
  rw [Nat.add_zero, pkL_lt hlt] at hp
  have hl := sLeft_ok t q 1 (by omega) (by omega)
  rw [decide_eq_true (by omega)] at hl
  have hd := drop_rd' t q hlt
  obtain ⟨ih0, ih1⟩ := ih (q + 1) (by omega) (by omega)
  have e : IntKind.wrap .i64 ((q : Int) + 1) = ((q + 1 : Nat) : Int) := w64 (by omega) (by omega)
  have h0 : (∀ h', Wk h' (scM t (q + blC false (t.drop q))) → R (.tup []) h') → token_scanner_blanksO_L0 R (ints .i64 t) q := fun hR => by
   rw [hd] at hR
   unfold blC at hR
   refine token_scanner_blanksO_l0 ?_
   unfold token_scanner_blanksO_R0
   refine ⟨_, _, _, hp, ?_⟩
   simp only [dec_t, dec_f, beq_t, beq_f, e]
   have semi : rd t q = 59 → token_scanner_blanksO_L1 R (ints .i64 t) q := fun h => by
    rw [if_neg (by rw [h]; decide), if_pos h] at hR
    refine token_scanner_blanksO_l1 ?_
    unfold token_scanner_blanksO_R1
    refine ⟨_, _, _, hl, fun _ => ⟨_, _, _, hp, ?_⟩, fun h => absurd h (by decide)⟩
    simp only [bne_t, bne_f, e]
    refine ⟨fun _ => ih1 ?_, fun h => by omega⟩
    rw [show q + (blC true (t.drop (q + 1)) + 1) = q + 1 + blC true (t.drop (q + 1)) by omega] at hR
    exact hR
   have out : blankB (rd t q) = false → rd t q ≠ 59 → R (.tup []) (scM t q) := fun h1 h2 => by
    rw [if_neg (by rw [h1]; simp), if_neg h2] at hR
    exact hR _ (Wk.refl _)
   refine ⟨fun _ => ⟨_, uBlank_ok _, fun hb => ?_, fun hb => ⟨semi, out hb⟩⟩, fun h => ⟨semi, out ?_⟩⟩
   ·rw [if_pos hb, show q + (blC false (t.drop (q + 1)) + 1) = q + 1 + blC false (t.drop (q + 1)) by omega] at hR
    exact ih0 hR
   ·unfold blankB; rw [decide_eq_false_iff_not]; omega
  refine ⟨h0, fun hR => ?_⟩
  refine token_scanner_blanksO_l1 ?_
  unfold token_scanner_blanksO_R1
  refine ⟨_, _, _, hl, fun _ => ⟨_, _, _, hp, ?_⟩, fun h => absurd h (by decide)⟩
  simp only [bne_t, bne_f, e]
  refine ⟨fun h => ih1 ?_, fun h => h0 ?_⟩
  ·rw [hd] at hR
   unfold blC at hR
   rw [if_neg h, show q + (blC true (t.drop (q + 1)) + 1) = q + 1 + blC true (t.drop (q + 1)) by omega] at hR
   exact hR
  ·have hb : blC true (t.drop q) = blC false (t.drop q) := by
    rw [hd, h]; rfl
   rw [← hb]; exact hR
theorem sBlanks_ok (t : List Int) (hlen : t.length ≤ 100000000) (q : Nat) (hq : q ≤ t.length) : Fn Tryz.prog 66 [scP] (scM t q) (.tup []) (scM t (q + blC false (t.drop q))) := by
 refine token_scanner_blanksO_fn _ _ ?_
 obtain ⟨R, hR, hRe⟩ := exW (.tup []) (scM t (q + blC false (t.drop q))); rw [hRe]; clear hRe
 unfold token_scanner_blanksO_H
 exact (sBlanks_loop t hlen R _ q rfl hq).1 hR
theorem enc_map (l : List Int) : ints .u8 (enc l) = List.map (fun n => [FV.int .u8 n]) (enc l) := rfl
theorem sWhile_loop (t : List Int) (hs : Scals t) (hlen : t.length ≤ 100000000) (p : Nat) (R : TV → List Ob → Prop) : ∀ (m q : Nat), t.length - q = m → q ≤ t.length → p ≤ q →
  (∀ h', Wk h' (scM t (q + untilN (t.drop q))) → R (.one (.fz (.str (bytesOf (enc ((t.drop p).take (q + untilN (t.drop q) - p))))))) h') → token_scanner_whileO_L0 R p (ints .i64 t) q := by
 intro m
 have fin : ∀ q, q ≤ t.length → p ≤ q → ∀ G : TV → List Ob → Prop, (∀ h', Wk h' (scM t q) → G (.one (.fz (.str (bytesOf (enc ((t.drop p).take (q - p))))))) h') →
   ((0 : Int) ≤ (p : Int) ∧ (p : Int) ≤ (q : Int) ∧ (q : Int) ≤ (((ints .i64 t).length : Nat) : Int)) ∧ ∃ es10 : LL, ∃ n18 : Int, (Fn Tryz.prog 157 [.one (.fz (.sl 1 (List.drop (Int.toNat p) (List.take (Int.toNat q) (ints .i64 t)))))] [] (.tup [(false, [.fz (.sl 1 es10)]), (false, [.fz (.int .i64 n18)])]) []) ∧ ∃ ns4 : List Int, (es10 = List.map (fun n19 => [FV.int .u8 n19]) ns4) ∧ G (.one (.fz (.str (bytesOf ns4)))) (scM t q) := by
  intro q h1 h2 G hG
  rw [ints_len, Int.toNat_natCast, Int.toNat_natCast, ints_take, ints_drop]
  have e1 : (t.take q).drop p = (t.drop p).take (q - p) := List.drop_take
  rw [e1]
  exact ⟨⟨by omega, by omega, by omega⟩, _, _, uEncode_ok _ ((hs.drop p).take _) (by simp; omega), _, enc_map _, hG _ (Wk.refl _)⟩
 induction m with
 | zero =>
  intro q hq hle hpq hR
  rw [List.drop_eq_nil_of_le (show t.length ≤ q by omega)] at hR
  refine token_scanner_whileO_l0 ?_
  unfold token_scanner_whileO_R0
  refine ⟨_, _, _, sLeft_ok t q 1 (by omega) (by omega), fun h => ?_, fun _ => fin q hle hpq R hR⟩
  simp at h; omega
 | succ m ih =>
  intro q hq hle hpq hR
  have hlt : q < t.length := by omega
  have hp := sPeek_ok t q 0 (by omega) (by omega)
  rw [Nat.add_zero, pkL_lt hlt] at hp
  have hl := sLeft_ok t q 1 (by omega) (by omega)
  rw [decide_eq_true (by omega)] at hl
  rw [drop_rd' t q hlt] at hR
  unfold untilN at hR
  have e : IntKind.wrap .i64 ((q : Int) + 1) = ((q + 1 : Nat) : Int) := w64 (by omega) (by omega)
  refine token_scanner_whileO_l0 ?_
  unfold token_scanner_whileO_R0
  refine ⟨_, _, _, hl, fun _ => ⟨_, _, _, hp, _, uEnds_ok _, ?_⟩, fun h => absurd h (by decide)⟩
  simp only [not_t, not_f]
  refine ⟨fun he => ?_, fun he => ?_⟩
  ·rw [if_neg (by rw [he]; simp), show q + (untilN (t.drop (q + 1)) + 1) = q + 1 + untilN (t.drop (q + 1)) by omega] at hR
   rw [e]
   exact ih (q + 1) (by omega) (by omega) (by omega) hR
  ·rw [if_pos he] at hR
   exact fin q hle hpq R hR
theorem sWhile_ok (t : List Int) (hs : Scals t) (hlen : t.length ≤ 100000000) (p k : Nat) (hq : p + k ≤ t.length) :
  Fn Tryz.prog 134 [scP, fzI .i64 ((k : Nat) : Int)] (scM t p) (.one (.fz (.str (bytesOf (enc ((t.drop p).take (k + untilN (t.drop (p + k))))))))) (scM t (p + k + untilN (t.drop (p + k)))) := by
 refine token_scanner_whileO_fn _ _ _ ?_
 obtain ⟨R, hR, hRe⟩ := exW (.one (.fz (.str (bytesOf (enc ((t.drop p).take (k + untilN (t.drop (p + k))))))))) (scM t (p + k + untilN (t.drop (p + k)))); rw [hRe]; clear hRe
 unfold token_scanner_whileO_H
 rw [w64 (by omega) (by omega)]
 have := sWhile_loop t hs hlen p R _ (p + k) rfl hq (by omega) (fun h' hw => by
  rw [show p + k + untilN (t.drop (p + k)) - p = k + untilN (t.drop (p + k)) by omega]
  exact hR h' hw)
 exact this
def hereB : List Int → List Int → Bool
 | [], _ => true
 | _ :: _, [] => false
 | w :: W, c :: T => decide (c = w) && hereB W T
theorem sHere_loop (t : List Int) (hs : Scals t) (hlen : t.length ≤ 100000000) (p : Nat) (hp : p ≤ t.length) (W : List Int) (hW : Bytes W) (hWl : W.length ≤ 1000) (R : TV → List Ob → Prop) : ∀ (m i : Nat), W.length - i = m → i ≤ W.length →
  (∀ h', Wk h' (scM t p) → R (fzB (hereB (W.drop i) (t.drop (p + i)))) h') → token_scanner_hereO_L0 R (bytesOf W) i (ints .i64 t) p := by
 intro m
 induction m with
 | zero =>
  intro i hi hle hR
  rw [List.drop_eq_nil_of_le (show W.length ≤ i by omega)] at hR
  refine token_scanner_hereO_l0 ?_
  unfold token_scanner_hereO_R0
  rw [size_of]
  refine ⟨fun h => absurd (of_decide_eq_true h) (by omega), fun _ => hR _ (Wk.refl _)⟩
 | succ m ih =>
  intro i hi hle hR
  have hlt : i < W.length := by omega
  obtain ⟨c, hc, hcv⟩ := byte_at hW hlt
  have hb := hW.rd (by omega) i
  rw [drop_rd' W i hlt] at hR
  refine token_scanner_hereO_l0 ?_
  unfold token_scanner_hereO_R0
  rw [size_of]
  refine ⟨fun _ => ⟨_, _, _, sPeek_ok t p i (by omega) (by omega), by omega, c, by rw [Int.toNat_natCast]; exact hc, ?_⟩, fun h => absurd (of_decide_eq_false h) (by omega)⟩
  rw [hcv, w64 (n := rd W i) (by omega) (by omega)]
  simp only [bne_t, bne_f]
  refine ⟨fun hne => ?_, fun heq => ?_⟩
  ·have hx : hereB (rd W i :: W.drop (i + 1)) (t.drop (p + i)) = false := by
    by_cases hpt : p + i < t.length
    ·rw [pkL_lt hpt] at hne
     rw [drop_rd' t (p + i) hpt]
     unfold hereB
     rw [decide_eq_false hne, Bool.false_and]
    ·rw [List.drop_eq_nil_of_le (show t.length ≤ p + i by omega)]; rfl
   rw [hx] at hR
   exact hR _ (Wk.refl _)
  ·have hpt : p + i < t.length := by
    unfold pkL at heq
    split at heq
    ·assumption
    ·omega
   rw [pkL_lt hpt] at heq
   rw [drop_rd' t (p + i) hpt] at hR
   unfold hereB at hR
   rw [decide_eq_true heq, Bool.true_and] at hR
   rw [w64 (by omega) (by omega)]
   exact ih (i + 1) (by omega) (by omega) hR
theorem sHere_ok (t : List Int) (hs : Scals t) (hlen : t.length ≤ 100000000) (p : Nat) (hp : p ≤ t.length) (W : List Int) (hW : Bytes W) (hWl : W.length ≤ 1000) :
  Fn Tryz.prog 103 [scP, .one (.fz (.str (bytesOf W)))] (scM t p) (fzB (hereB W (t.drop p))) (scM t p) := by
 refine token_scanner_hereO_fn _ _ _ ?_
 obtain ⟨R, hR, hRe⟩ := exW (fzB (hereB W (t.drop p))) (scM t p); rw [hRe]; clear hRe
 unfold token_scanner_hereO_H
 exact sHere_loop t hs hlen p hp W hW hWl R _ 0 rfl (Nat.zero_le _) hR
end
section
theorem ch1_ascii {c : Int} {r : List Int} (h : c < 128) : ch1 (c :: r) = (c, 1) := by
 unfold ch1 chN
 have : rd (c :: r) 0 = c := rfl
 rw [this, if_pos h]
theorem namedV_x {B : List Int} (hB : Bytes B) (hne : B ≠ []) : namedV (120 :: B) = hexV B := by
 have hb : Bytes (120 :: B) := by
  intro x hx
  rcases List.mem_cons.1 hx with rfl | hx
  ·omega
  ·exact hB x hx
 have hl : B.length ≠ 0 := fun e => hne (List.length_eq_zero_iff.1 e)
 have no : ¬ ((chars (120 :: B)).2 = -1 ∧ (chars (120 :: B)).1.length = 1) := by
  rw [chars_one hb]
  unfold oneB
  rw [ch1_ascii (by omega)]
  simp
  omega
 unfold namedV
 rw [if_neg (by simp), if_neg (by simp), if_neg (by simp), if_neg (by simp), if_neg (by simp), if_neg (by simp), if_neg no, if_pos ⟨by simp; omega, rfl⟩]
 rfl
theorem hexV_nil : hexV [] = -1 := by unfold hexV; rw [if_neg (by simp)]
theorem x_of (X : List Int) : ByteArray.mk #[120] ++ bytesOf X = bytesOf (120 :: X) := by
 have e : ByteArray.mk #[120] = bytesOf [120] := by decide +kernel
 rw [e, app_of]; rfl
def hxV (r : List Int) : Int := if pkL r (semN 7 r) = 59 then hexV (enc (r.take (semN 7 r))) else -1
def hxQ (r : List Int) : Nat := if pkL r (semN 7 r) = 59 ∧ semN 7 r ≠ 0 then semN 7 r + 1 else semN 7 r
theorem enc_ne {l : List Int} (hs : Scals l) (h : l ≠ []) : enc l ≠ [] := by
 cases l with
 | nil => exact absurd rfl h
 | cons c r =>
  rw [enc_cons]
  have := utfB_len c
  intro e
  have e2 := congrArg List.length e
  rw [List.length_append] at e2
  simp at e2
  split at this <;> (try split at this) <;> (try split at this) <;> simp [e2.1] at this
theorem sHex_loop (t : List Int) (hs : Scals t) (hlen : t.length ≤ 100000000) (p : Nat) (hp : p ≤ t.length) (R : TV → List Ob → Prop)
  (hR : ∀ h', Wk h' (scM t (p + hxQ (t.drop p))) → R (fzI .i64 (hxV (t.drop p))) h') : ∀ (m j : Nat), t.length - (p + j) = m → j ≤ semN 7 (t.drop p) → token_scanner_hexO_L0 R p (ints .i64 t) ((p + j : Nat) : Int) := by
 obtain ⟨s1, s2⟩ := semN_spec 7 (t.drop p)
 obtain ⟨l1, l2⟩ := semN_le 7 (t.drop p)
 have hdl : (t.drop p).length = t.length - p := List.length_drop
 have hpk : pkL (t.drop p) (semN 7 (t.drop p)) = pkL t (p + semN 7 (t.drop p)) := pkL_drop _ _ _
 unfold hxV hxQ at hR
 rw [hpk] at hR
 generalize semN 7 (t.drop p) = s at *
 have hscal : Scals ((t.drop p).take s) := (hs.drop p).take s
 have hne : s ≠ 0 → p + s ≤ t.length → enc ((t.drop p).take s) ≠ [] := fun h0 h1 => enc_ne hscal (fun e => by have := congrArg List.length e; simp at this; omega)
 have hbx : Bytes (enc ((t.drop p).take s)) := enc_bytes hscal
 have hbl : (enc ((t.drop p).take s)).length ≤ 28 := by
  have := enc_len ((t.drop p).take s)
  have h2 : ((t.drop p).take s).length ≤ 7 := by simp; omega
  omega
 intro m
 induction m using Nat.strongRecOn with
 | _ m ih =>
 intro j hj hle
 have hlj := sLeft_ok t (p + j) 1 (by omega) (by omega)
 have hpj := sPeek_ok t (p + j) 0 (by omega) (by omega)
 rw [Nat.add_zero] at hpj
 refine token_scanner_hexO_l0 ?_
 unfold token_scanner_hexO_R0
 refine ⟨_, _, _, hlj, fun hl => ?in_, fun hl => ?out⟩
 case' in_ =>
  have hl' : p + j + 1 ≤ t.length := of_decide_eq_true hl
  refine ⟨_, _, _, hpj, ?_⟩
  simp only [bne_t, bne_f, dec_t, dec_f]
  rw [pkL_lt (by omega), w64 (n := ((p + j : Nat) : Int) - (p : Int)) (by omega) (by omega)]
  refine ⟨fun h59 => ⟨fun h7 => ?nx, fun h7 => ?o1⟩, fun h59 => ?o2⟩
  case' nx =>
   rw [w64 (by omega) (by omega)]
   have hlt : j < s := by
    rcases s2 with s2 | s2 | s2
    ·omega
    ·omega
    ·rw [rd_dropN] at s2
     by_cases he : j = s
     ·subst he; exact absurd s2 h59
     ·omega
   exact ih (t.length - (p + (j + 1))) (by omega) (j + 1) rfl (by omega)
 all_goals
  have hjs : j = s := by
   by_cases he : j = s
   ·exact he
   ·first
    | omega
    | (have := s1 j (by omega); rw [rd_dropN] at this; exact absurd h59 this)
    | (have := of_decide_eq_false hl; omega)
  clear ih
  subst hjs
  refine ⟨_, _, _, hpj, ?_⟩
  simp only [bne_t, bne_f, beq_t, beq_f]
  refine ⟨fun a => ?_, fun a => ⟨fun b => ?_, fun b => ?_⟩⟩
  ·rw [if_neg (fun h => a h.1), if_neg a] at hR
   exact hR _ (Wk.refl _)
  ·have h0 : j = 0 := by omega
   rw [if_neg (fun h => h.2 h0), if_pos a] at hR
   rw [h0, List.take_zero, show enc [] = [] from rfl, hexV_nil] at hR
   rw [h0]
   exact hR _ (Wk.refl _)
  ·have h0 : j ≠ 0 := by omega
   have hpt : p + j ≤ t.length := by omega
   rw [if_pos ⟨a, h0⟩, if_pos a] at hR
   rw [ints_len, Int.toNat_natCast, Int.toNat_natCast, ints_take, ints_drop]
   have e1 : (t.take (p + j)).drop p = (t.drop p).take j := by rw [List.drop_take]; congr 1; omega
   rw [e1]
   have hN := uNamed_ok (120 :: enc ((t.drop p).take j)) (by
    intro x hx
    rcases List.mem_cons.1 hx with rfl | hx
    ·omega
    ·exact hbx x hx) (by rw [List.length_cons]; omega)
   rw [namedV_x hbx (hne h0 hpt), ← x_of] at hN
   have sc := hexV_scal (enc ((t.drop p).take j))
   refine ⟨⟨by omega, by omega, by omega⟩, _, _, uEncode_ok _ hscal (by simp; omega), _, enc_map _, ?_, _, _, hN, ?_⟩
   ·rw [size_of, show (ByteArray.mk #[120]).size = 1 from rfl]; omega
   ·simp only [not_t, not_f, dec_t, dec_f]
    rw [w64 (by omega) (by omega)]
    refine ⟨fun hv => ?_, fun hv => ?_⟩
    ·have : hexV (enc ((t.drop p).take j)) = -1 := by
      rcases sc with sc | sc
      ·exact sc
      ·have := (scal_in sc).1; omega
     rw [this] at hR
     exact hR _ (Wk.refl _)
    ·rw [if_pos hv]
     exact hR _ (Wk.refl _)
theorem sHex_ok (t : List Int) (hs : Scals t) (hlen : t.length ≤ 100000000) (p : Nat) (hp : p ≤ t.length) : Fn Tryz.prog 184 [scP] (scM t p) (fzI .i64 (hxV (t.drop p))) (scM t (p + hxQ (t.drop p))) := by
 refine token_scanner_hexO_fn _ _ ?_
 obtain ⟨R, hR, hRe⟩ := exW (fzI .i64 (hxV (t.drop p))) (scM t (p + hxQ (t.drop p))); rw [hRe]; clear hRe
 unfold token_scanner_hexO_H
 exact sHex_loop t hs hlen p hp R hR _ 0 rfl (Nat.zero_le _)
def esQ (r : List Int) : Nat := if pkL r 0 = 120 then 1 + hxQ (r.drop 1) else 1
theorem escV_hex {r : List Int} (h : pkL r 0 = 120) : (escV r).1 = hxV (r.drop 1) ∧ (0 ≤ hxV (r.drop 1) → (escV r).2 = 1 + hxQ (r.drop 1)) := by
 unfold escV hxV hxQ
 simp only [h]
 rw [if_neg (by omega), if_neg (by omega), if_neg (by omega), if_neg (by omega), if_neg (by omega), if_pos trivial]
 by_cases h59 : pkL (r.drop 1) (semN 7 (r.drop 1)) = 59
 ·rw [if_pos h59, if_pos h59]
  refine ⟨rfl, fun h0 => ?_⟩
  by_cases hz : semN 7 (r.drop 1) = 0
  ·rw [hz, List.take_zero, show enc [] = [] from rfl, hexV_nil] at h0; omega
  ·rw [if_pos ⟨h59, hz⟩]; simp only; omega
 ·rw [if_neg h59, if_neg h59]
  exact ⟨rfl, fun h0 => by omega⟩
theorem sEscape_ok (t : List Int) (hs : Scals t) (hlen : t.length ≤ 100000000) (p : Nat) (hp : p ≤ t.length) :
  Fn Tryz.prog 158 [scP] (scM t p) (fzI .i64 (escV (t.drop p)).1) (scM t (p + esQ (t.drop p))) := by
 refine token_scanner_escapeO_fn _ _ ?_
 obtain ⟨R, hR, hRe⟩ := exW (fzI .i64 (escV (t.drop p)).1) (scM t (p + esQ (t.drop p))); rw [hRe]; clear hRe
 unfold token_scanner_escapeO_H
 have hpj := sPeek_ok t p 0 (by omega) (by omega)
 have hk : pkL (t.drop p) 0 = pkL t (p + 0) := pkL_drop _ _ _
 refine ⟨_, _, _, hpj, ?_⟩
 rw [← hk, w64 (by omega) (by omega)]
 simp only [beq_t, beq_f]
 have one : pkL (t.drop p) 0 ≠ 120 → ∀ v, (escV (t.drop p)).1 = v → R (fzI .i64 v) (scM t (p + 1)) := fun hx v hv => by
  unfold esQ at hR
  rw [if_neg hx, hv] at hR
  exact hR _ (Wk.refl _)
 refine ⟨fun c => one (by omega) _ ?_, fun c1 => ⟨fun c => one (by omega) _ ?_, fun c2 => ⟨fun c => one (by omega) _ ?_, fun c3 => ⟨fun c => one (by omega) _ ?_, fun c4 => ⟨fun c => one (by omega) _ ?_, fun c5 => ⟨fun c => ?_, fun c6 => one c6 _ ?_⟩⟩⟩⟩⟩⟩
 ·unfold escV; simp only [c]; rfl
 ·unfold escV; simp only [c]; rfl
 ·unfold escV; simp only [c]; rfl
 ·unfold escV; simp only [c]; rfl
 ·unfold escV; simp only [c]; rfl
 ·have hpt : p + 1 ≤ t.length := by
   rw [hk] at c
   unfold pkL at c
   split at c <;> omega
  obtain ⟨e1, e2⟩ := escV_hex c
  have hx := sHex_ok t hs hlen (p + 1) hpt
  rw [List.drop_drop] at e1 e2
  unfold esQ at hR
  rw [if_pos c, List.drop_drop, e1, show p + (1 + hxQ (t.drop (p + 1))) = p + 1 + hxQ (t.drop (p + 1)) by omega] at hR
  exact ⟨_, _, _, hx, hR _ (Wk.refl _)⟩
 ·unfold escV
  simp only
  rw [if_neg c1, if_neg c3, if_neg c2, if_neg c4, if_neg c5, if_neg c6]
theorem escV_pos {r : List Int} (h : 0 ≤ (escV r).1) : esQ r = (escV r).2 ∧ scalB (escV r).1 = true ∧ (escV r).2 ≤ r.length := by
 by_cases c : pkL r 0 = 120
 ·obtain ⟨e1, e2⟩ := escV_hex c
  rw [e1] at h ⊢
  refine ⟨by unfold esQ; rw [if_pos c, e2 h], ?_, ?_⟩
  ·unfold hxV at h ⊢
   split at h
   ·rename_i h59
    rw [if_pos h59]
    rcases hexV_scal (enc ((r.drop 1).take (semN 7 (r.drop 1)))) with sc | sc
    ·omega
    ·exact sc
   ·omega
  ·rw [e2 h]
   have l2 := (semN_le 7 (r.drop 1)).2
   have l3 : (r.drop 1).length = r.length - 1 := List.length_drop
   have hr : 1 ≤ r.length := by
    unfold pkL at c
    split at c <;> omega
   unfold hxQ
   split
   ·rename_i h59
    have := h59.1
    unfold pkL at this
    split at this <;> omega
   ·omega
 ·have hn : r.length ≠ 0 := fun e => by
   unfold escV at h
   rw [pkL_ge (by omega)] at h
   simp at h
  unfold esQ
  rw [if_neg c]
  unfold escV at h ⊢
  simp only at h ⊢
  revert h
  repeat' split
  all_goals first
   | (intro _; refine ⟨rfl, by decide, ?_⟩; simp only; omega)
   | (intro h; exact absurd h (by decide))
   | (rename_i h1 _; exact absurd h1 c)
   | (rename_i h1; exact absurd h1 c)
   | (intro _; exact absurd (by assumption) c)
def stV (p : Option (List Int × Nat)) : List Int := match p with | some (a, _) => a | none => []
abbrev stT (p : Option (List Int × Nat)) : TV := match p with
 | some (a, _) => .tup [(false, [.fz (.str (bytesOf (enc a)))]), (false, [.fz (.bool (decide (a.length ≤ 4096)))])]
 | none => .tup [(false, [.fz (.str (bytesOf []))]), (false, [.fz (.bool false)])]
def strP : Nat → List Int → Nat → Nat
 | 0, _, k => k
 | _ + 1, [], k => k
 | f + 1, c :: r, k => if c = 34 then k + 1 else if c ≠ 92 then strP f r (k + 1) else if (escV r).1 < 0 then k + 1 + esQ r else strP f (r.drop (escV r).2) (k + 1 + (escV r).2)
theorem strP_some : ∀ (f : Nat) (r acc : List Int) (k : Nat) (a : List Int) (e : Nat), strF f r acc k = some (a, e) → strP f r k = e
 | 0, r, acc, k, a, e, h => by unfold strF at h; cases h
 | f + 1, [], acc, k, a, e, h => by unfold strF at h; cases h
 | f + 1, c :: r, acc, k, a, e, h => by
  unfold strF at h
  unfold strP
  split
  ·rename_i hc
   rw [if_pos hc] at h; cases h; rfl
  ·rename_i hc
   rw [if_neg hc] at h
   split
   ·rename_i hc2
    rw [if_pos hc2] at h
    exact strP_some f r _ _ a e h
   ·rename_i hc2
    rw [if_neg hc2] at h
    split
    ·rename_i hc3
     rw [if_pos hc3] at h; cases h
    ·rename_i hc3
     rw [if_neg hc3] at h
     exact strP_some f _ _ _ a e h
theorem sStr_loop (t : List Int) (hs : Scals t) (hlen : t.length ≤ 100000000) (R : TV → List Ob → Prop) : ∀ (f q : Nat) (acc : List Int), t.length - q < f → q ≤ t.length → acc.length ≤ q → Scals acc →
  (∀ h', Wk h' (scM t (strP f (t.drop q) q)) → R (stT (strF f (t.drop q) acc q)) h') → token_scanner_strO_L0 R (ints .i64 t) q (ints .i64 acc) := by
 intro f
 induction f with
 | zero => intro q acc hf; omega
 | succ f ih =>
  intro q acc hf hle hacc hsa hR
  have hl := sLeft_ok t q 1 (by omega) (by omega)
  have hp := sPeek_ok t q 0 (by omega) (by omega)
  refine token_scanner_strO_l0 ?_
  unfold token_scanner_strO_R0
  refine ⟨_, _, _, hl, fun h1 => ?_, fun h1 => ?_⟩
  ·have hlt : q < t.length := of_decide_eq_true h1
   rw [Nat.add_zero, pkL_lt hlt] at hp
   rw [drop_rd' t q hlt] at hR
   unfold strF strP at hR
   have e : IntKind.wrap .i64 ((q : Int) + 1) = ((q + 1 : Nat) : Int) := w64 (by omega) (by omega)
   refine ⟨_, _, _, hp, ?_⟩
   simp only [beq_t, beq_f, dec_t, dec_f, e, ints_len]
   refine ⟨fun c34 => ?_, fun c34 => ⟨fun c92 => ?_, fun c92 => ?_⟩⟩
   ·rw [if_pos c34, if_pos c34] at hR
    refine ⟨_, _, uEncode_ok acc hsa (by omega), _, enc_map _, ?_⟩
    have hx := hR _ (Wk.refl _)
    unfold stT at hx
    simp only at hx
    have e2 : decide ((acc.length : Int) ≤ 4096) = decide (acc.length ≤ 4096) := by rw [decide_eq_decide]; omega
    rw [e2]
    exact hx
   ·have n92 : ¬ (rd t q ≠ 92) := fun h => h c92
    rw [if_neg c34, if_neg c34, if_neg n92, if_neg n92] at hR
    have hE := sEscape_ok t hs hlen (q + 1) (by omega)
    refine ⟨_, _, _, hE, fun hv => ?_, fun hv => ?_⟩
    ·rw [if_pos hv, if_pos hv] at hR
     exact hR _ (Wk.refl _)
    ·rw [if_neg hv, if_neg hv] at hR
     obtain ⟨g1, g2, g3⟩ := escV_pos (r := t.drop (q + 1)) (by omega)
     rw [List.length_drop] at g3
     rw [g1, ints_snoc]
     rw [List.drop_drop] at hR
     exact ⟨by simp only [List.length_cons, List.length_nil]; omega, ih (q + 1 + (escV (t.drop (q + 1))).2) (acc ++ [(escV (t.drop (q + 1))).1]) (by omega) (by omega) (by simp; omega) (by
      intro c hc
      rcases List.mem_append.1 hc with hc | hc
      ·exact hsa c hc
      ·simp at hc; rw [hc]; exact g2) hR⟩
   ·rw [if_neg c34, if_neg c34, if_pos c92, if_pos c92] at hR
    rw [ints_snoc]
    exact ⟨by simp only [List.length_cons, List.length_nil]; omega, ih (q + 1) (acc ++ [rd t q]) (by omega) (by omega) (by simp; omega) (by
      intro c hc
      rcases List.mem_append.1 hc with hc | hc
      ·exact hsa c hc
      ·simp at hc; rw [hc]; exact hs.rd hlt) hR⟩
  ·have hge : t.length ≤ q := by have := of_decide_eq_false h1; omega
   rw [List.drop_eq_nil_of_le hge] at hR
   exact hR _ (Wk.refl _)
theorem sStr_ok (t : List Int) (hs : Scals t) (hlen : t.length ≤ 100000000) (p : Nat) (hp : p ≤ t.length) :
  Fn Tryz.prog 132 [scP] (scM t p) (stT (strF (t.length + 1) (t.drop p) [] p)) (scM t (strP (t.length + 1) (t.drop p) p)) := by
 refine token_scanner_strO_fn _ _ ?_
 obtain ⟨R, hR, hRe⟩ := exW (stT (strF (t.length + 1) (t.drop p) [] p)) (scM t (strP (t.length + 1) (t.drop p) p)); rw [hRe]; clear hRe
 unfold token_scanner_strO_H
 exact sStr_loop t hs hlen R (t.length + 1) p [] (by omega) hp (by simp) (by intro c hc; cases hc) hR
theorem ch1_scal {l : List Int} (hl : Bytes l) (hne : l ≠ []) (h : (ch1 l).2 ≠ 0) : scalB (ch1 l).1 = true := by
 have b0 := rd_byte hl 0
 revert h
 unfold ch1 chN scalB
 repeat' split
 all_goals first | (intro h; exact absurd rfl h) | (intro _; simp; omega)
theorem namedV_scal {T : List Int} (hT : Bytes T) : namedV T < 0 ∨ scalB (namedV T) = true := by
 unfold namedV
 by_cases h0 : T = [115, 112, 97, 99, 101]
 ·rw [if_pos h0]; exact .inr (by decide)
 rw [if_neg h0]
 by_cases h1 : T = [110, 101, 119, 108, 105, 110, 101]
 ·rw [if_pos h1]; exact .inr (by decide)
 rw [if_neg h1]
 by_cases h2 : T = [116, 97, 98]
 ·rw [if_pos h2]; exact .inr (by decide)
 rw [if_neg h2]
 by_cases h3 : T = [114, 101, 116, 117, 114, 110]
 ·rw [if_pos h3]; exact .inr (by decide)
 rw [if_neg h3]
 by_cases h4 : T = [110, 117, 108, 108]
 ·rw [if_pos h4]; exact .inr (by decide)
 rw [if_neg h4]
 by_cases h5 : T = [100, 101, 108, 101, 116, 101]
 ·rw [if_pos h5]; exact .inr (by decide)
 rw [if_neg h5]
 split
 ·rename_i h
  have h1 := (chars_one hT).1 h
  obtain ⟨q1, q2⟩ := namedV_one hT h1
  rw [q1]
  unfold oneB at h1
  rw [decide_eq_true_eq] at h1
  right
  exact ch1_scal hT h1.1 (by rw [h1.2]; have : T.length ≠ 0 := fun e => h1.1 (List.length_eq_zero_iff.1 e); omega)
 ·split
  ·rcases hexV_scal (T.drop 1) with h | h
   ·left; omega
   ·exact .inr h
  ·left; omega
def chN_ (r : List Int) : Nat := 1 + untilN (r.drop 1)
def chB (r : List Int) : List Int := enc (r.take (chN_ r))
def chV (r : List Int) : Int := if r = [] then -1 else namedV (chB r)
def chQ (r : List Int) : Nat := if r = [] then 0 else chN_ r
def chX (r : List Int) : List Int := if r = [] then [] else utfB (if 0 ≤ chV r then chV r else 0)
theorem sChar_ok (t : List Int) (hs : Scals t) (hlen : t.length ≤ 4000000) (p : Nat) (hp : p ≤ t.length) :
  Fn Tryz.prog 133 [scP] (scM t p) (.tup [(false, [.fz (.str (bytesOf (chX (t.drop p))))]), (false, [.fz (.bool (decide (0 ≤ chV (t.drop p))))])]) (scM t (p + chQ (t.drop p))) := by
 refine token_scanner_charO_fn _ _ ?_
 obtain ⟨R, hR, hRe⟩ := exW (.tup [(false, [.fz (.str (bytesOf (chX (t.drop p))))]), (false, [.fz (.bool (decide (0 ≤ chV (t.drop p))))])]) (scM t (p + chQ (t.drop p))); rw [hRe]; clear hRe
 unfold token_scanner_charO_H
 refine ⟨_, _, _, sLeft_ok t p 1 (by omega) (by omega), ?_⟩
 simp only [not_t, not_f, decide_eq_true_eq, decide_eq_false_iff_not]
 refine ⟨fun h => ?_, fun h => ?_⟩
 ·have hd : t.drop p = [] := List.drop_eq_nil_of_le (by omega)
  rw [hd] at hR
  exact hR _ (Wk.refl _)
 ·have hd : t.drop p ≠ [] := fun e => by have := congrArg List.length e; simp at this; omega
  have hW := sWhile_ok t hs (by omega) p 1 h
  have e1 : 1 + untilN (t.drop (p + 1)) = chN_ (t.drop p) := by unfold chN_; rw [List.drop_drop]
  have hun := untilN_le (t.drop (p + 1))
  rw [List.length_drop] at hun
  have hbB : Bytes (chB (t.drop p)) := enc_bytes ((hs.drop p).take _)
  have hbl : (chB (t.drop p)).length ≤ 16777216 := by
   have := enc_len ((t.drop p).take (chN_ (t.drop p)))
   unfold chB
   simp only [List.length_take, List.length_drop] at this
   omega
  rw [e1, show p + 1 + untilN (t.drop (p + 1)) = p + chN_ (t.drop p) by omega] at hW
  have hN := uNamed_ok (chB (t.drop p)) hbB hbl
  have hsc := namedV_scal hbB
  unfold chX chV chQ at hR
  rw [if_neg hd, if_neg hd, if_neg hd] at hR
  refine ⟨_, _, _, hW, _, _, hN, ?_⟩
  generalize namedV (chB (t.drop p)) = v at *
  have hE := uEncode_ok [if 0 ≤ v then v else 0] (by
   intro c hc
   simp at hc
   rw [hc]
   split
   ·rcases hsc with hsc | hsc
    ·omega
    ·exact hsc
   ·decide) (by simp)
  refine ⟨_, _, hE, _, enc_map _, ?_⟩
  rw [show enc [if 0 ≤ v then v else 0] = utfB (if 0 ≤ v then v else 0) by simp [enc]]
  exact hR _ (Wk.refl _)
end
section
def token_scanner_nextO_lv : List Nat → Keep := lvOf [([0, 1, 0, 1, 1], ⟨12301, 0, [], false, false⟩)]
def token_scanner_nextO_S0 (p : Int) (i : Int) (o : LL) (o1 : Int) : St := (St.mk [(TV.one (AV.ptr 0 0 0 110)), TV.und, (TV.one (AV.ptr 1 0 0 0)), (TV.one (AV.fz (FV.int .i64 p))), TV.und, TV.und, TV.und, TV.und, TV.und, TV.und, TV.und, TV.und, (TV.agg [(AV.fz (FV.str (ByteArray.mk #[35, 44, 64]))), (AV.fz (FV.int .i64 6)), (AV.fz (FV.str (ByteArray.mk #[117, 110, 115, 121, 110, 116, 97, 120, 45, 115, 112, 108, 105, 99, 105, 110, 103]))), (AV.fz (FV.str (ByteArray.mk #[35, 40]))), (AV.fz (FV.int .i64 3)), (AV.fz (FV.str (ByteArray.mk #[]))), (AV.fz (FV.str (ByteArray.mk #[35, 59]))), (AV.fz (FV.int .i64 5)), (AV.fz (FV.str (ByteArray.mk #[]))), (AV.fz (FV.str (ByteArray.mk #[35, 39]))), (AV.fz (FV.int .i64 6)), (AV.fz (FV.str (ByteArray.mk #[115, 121, 110, 116, 97, 120]))), (AV.fz (FV.str (ByteArray.mk #[35, 96]))), (AV.fz (FV.int .i64 6)), (AV.fz (FV.str (ByteArray.mk #[113, 117, 97, 115, 105, 115, 121, 110, 116, 97, 120]))), (AV.fz (FV.str (ByteArray.mk #[35, 44]))), (AV.fz (FV.int .i64 6)), (AV.fz (FV.str (ByteArray.mk #[117, 110, 115, 121, 110, 116, 97, 120]))), (AV.fz (FV.str (ByteArray.mk #[44, 64]))), (AV.fz (FV.int .i64 6)), (AV.fz (FV.str (ByteArray.mk #[117, 110, 113, 117, 111, 116, 101, 45, 115, 112, 108, 105, 99, 105, 110, 103]))), (AV.fz (FV.str (ByteArray.mk #[40]))), (AV.fz (FV.int .i64 1)), (AV.fz (FV.str (ByteArray.mk #[]))), (AV.fz (FV.str (ByteArray.mk #[41]))), (AV.fz (FV.int .i64 2)), (AV.fz (FV.str (ByteArray.mk #[]))), (AV.fz (FV.str (ByteArray.mk #[39]))), (AV.fz (FV.int .i64 6)), (AV.fz (FV.str (ByteArray.mk #[113, 117, 111, 116, 101]))), (AV.fz (FV.str (ByteArray.mk #[96]))), (AV.fz (FV.int .i64 6)), (AV.fz (FV.str (ByteArray.mk #[113, 117, 97, 115, 105, 113, 117, 111, 116, 101]))), (AV.fz (FV.str (ByteArray.mk #[44]))), (AV.fz (FV.int .i64 6)), (AV.fz (FV.str (ByteArray.mk #[117, 110, 113, 117, 111, 116, 101])))]), (TV.one (AV.fz (FV.int .i64 i))), TV.und, TV.und, TV.und, TV.und, TV.und, TV.und, TV.und, TV.und, TV.und, TV.und, TV.und, TV.und, TV.und, TV.und, TV.und, TV.und, TV.und, TV.und, TV.und, TV.und, TV.und, TV.und, TV.und, TV.und, TV.und, TV.und, TV.und, TV.und, TV.und, TV.und, TV.und, TV.und, TV.und, TV.und, TV.und, TV.und, TV.und, TV.und, TV.und, TV.und, TV.und, TV.und, TV.und, TV.und, TV.und, TV.und, TV.und, TV.und, TV.und, TV.und, TV.und, TV.und, TV.und, TV.und, TV.und, TV.und, TV.und, TV.und, TV.und, TV.und] [(Ob.g 110 [(AV.fz (FV.sl 1 o)), (AV.fz (FV.int .i64 o1))]), (Ob.g 112 [(AV.fz (FV.int .i64 0)), (AV.fz (FV.str (ByteArray.mk #[]))), (AV.fz (FV.int .i64 0)), (AV.fz (FV.str (ByteArray.mk #[]))), (AV.fz (FV.bool false)), (AV.ofl 1 2), (AV.ofl 6 3), (AV.fz (FV.int .i64 0)), (AV.fz (FV.int .i64 0))]), (Ob.f 0 1 ([] : LL)), (Ob.f 0 6 ([] : LL))])
def token_scanner_nextO_L0 (R : TV → List Ob → Prop) (RX : FV → List Ob → Prop) (p : Int) (i : Int) (o : LL) (o1 : Int) : Prop := LoopAt Tryz.prog (modeX [] [(67, [(Sig.mk 1 [(false, [(AT.k CK.bool)])] [(OT.g 110 [(AT.k (CK.sl 1)), (AT.k (CK.int .i64))])] 0)]), (101, [(Sig.mk 1 [(false, [(AT.k (CK.int .i64))])] [(OT.g 110 [(AT.k (CK.sl 1)), (AT.k (CK.int .i64))])] 0)]), (103, [(Sig.mk 1 [(false, [(AT.k CK.bool)])] [(OT.g 110 [(AT.k (CK.sl 1)), (AT.k (CK.int .i64))])] 0)]), (105, [(Sig.mk 1 [(true, [(AT.k (CK.int .i64)), (AT.k CK.str), (AT.k CK.bool), (AT.k (CK.sl 1)), (AT.k (CK.sl 6)), (AT.k (CK.int .i64))]), (false, [(AT.k CK.bool)])] [(OT.g 110 [(AT.k (CK.sl 1)), (AT.k (CK.int .i64))])] 0)])] [] 1 RX) token_scanner_nextO_lv Tryz.f68 (some 1) R [1, 1, 0, 1, 0] (token_scanner_nextO_S0 p i o o1)
def token_scanner_nextO_R0 (R : TV → List Ob → Prop) (RX : FV → List Ob → Prop) (p : Int) (i : Int) (o : List (List FV)) (o1 : Int) : Prop :=
 ((((decide (i < 12)) = true) → ((((0 : Int) ≤ i) ∧ (i < 12)) ∧ (∃ s8 : ByteArray, (∃ n26 : Int, (∃ s9 : ByteArray, ((cutT [(AV.fz (FV.str (ByteArray.mk #[35, 44, 64]))), (AV.fz (FV.int .i64 6)), (AV.fz (FV.str (ByteArray.mk #[117, 110, 115, 121, 110, 116, 97, 120, 45, 115, 112, 108, 105, 99, 105, 110, 103]))), (AV.fz (FV.str (ByteArray.mk #[35, 40]))), (AV.fz (FV.int .i64 3)), (AV.fz (FV.str (ByteArray.mk #[]))), (AV.fz (FV.str (ByteArray.mk #[35, 59]))), (AV.fz (FV.int .i64 5)), (AV.fz (FV.str (ByteArray.mk #[]))), (AV.fz (FV.str (ByteArray.mk #[35, 39]))), (AV.fz (FV.int .i64 6)), (AV.fz (FV.str (ByteArray.mk #[115, 121, 110, 116, 97, 120]))), (AV.fz (FV.str (ByteArray.mk #[35, 96]))), (AV.fz (FV.int .i64 6)), (AV.fz (FV.str (ByteArray.mk #[113, 117, 97, 115, 105, 115, 121, 110, 116, 97, 120]))), (AV.fz (FV.str (ByteArray.mk #[35, 44]))), (AV.fz (FV.int .i64 6)), (AV.fz (FV.str (ByteArray.mk #[117, 110, 115, 121, 110, 116, 97, 120]))), (AV.fz (FV.str (ByteArray.mk #[44, 64]))), (AV.fz (FV.int .i64 6)), (AV.fz (FV.str (ByteArray.mk #[117, 110, 113, 117, 111, 116, 101, 45, 115, 112, 108, 105, 99, 105, 110, 103]))), (AV.fz (FV.str (ByteArray.mk #[40]))), (AV.fz (FV.int .i64 1)), (AV.fz (FV.str (ByteArray.mk #[]))), (AV.fz (FV.str (ByteArray.mk #[41]))), (AV.fz (FV.int .i64 2)), (AV.fz (FV.str (ByteArray.mk #[]))), (AV.fz (FV.str (ByteArray.mk #[39]))), (AV.fz (FV.int .i64 6)), (AV.fz (FV.str (ByteArray.mk #[113, 117, 111, 116, 101]))), (AV.fz (FV.str (ByteArray.mk #[96]))), (AV.fz (FV.int .i64 6)), (AV.fz (FV.str (ByteArray.mk #[113, 117, 97, 115, 105, 113, 117, 111, 116, 101]))), (AV.fz (FV.str (ByteArray.mk #[44]))), (AV.fz (FV.int .i64 6)), (AV.fz (FV.str (ByteArray.mk #[117, 110, 113, 117, 111, 116, 101])))] ((Int.toNat i) * 3) 3 [(FV.str s8), (FV.int .i64 n26), (FV.str s9)]) ∧ (∃ es20 : LL, (∃ n27 : Int, (∃ b14 : Bool, ((Fn Tryz.prog 103 [(TV.one (AV.ptr 0 0 0 110)), (TV.one (AV.fz (FV.str s8)))] [(Ob.g 110 [(AV.fz (FV.sl 1 o)), (AV.fz (FV.int .i64 o1))])] (TV.one (AV.fz (FV.bool b14))) [(Ob.g 110 [(AV.fz (FV.sl 1 es20)), (AV.fz (FV.int .i64 n27))])]) ∧ (((b14 = true) → (R (TV.agg [(AV.fz (FV.int .i64 n26)), (AV.fz (FV.str s9)), (AV.fz (FV.int .i64 0)), (AV.fz (FV.str (ByteArray.mk #[]))), (AV.fz (FV.bool false)), (AV.ofl 1 1), (AV.ofl 6 2), (AV.fz (FV.int .i64 0)), (AV.fz (FV.int .i64 p))]) [(Ob.g 110 [(AV.fz (FV.sl 1 es20)), (AV.fz (FV.int .i64 (IntKind.wrap .i64 (n27 + (((ByteArray.size s8) : Nat) : Int)))))]), (Ob.f 0 1 ([] : LL)), (Ob.f 0 6 ([] : LL))])) ∧ ((b14 = false) → (token_scanner_nextO_L0 R RX p (IntKind.wrap .i64 (i + 1)) es20 n27))))))))))))) ∧ (((decide (i < 12)) = false) → (∃ es21 : LL, (∃ n28 : Int, (∃ n29 : Int, ((Fn Tryz.prog 101 [(TV.one (AV.ptr 0 0 0 110)), (TV.one (AV.fz (FV.int .i64 0)))] [(Ob.g 110 [(AV.fz (FV.sl 1 o)), (AV.fz (FV.int .i64 o1))])] (TV.one (AV.fz (FV.int .i64 n29))) [(Ob.g 110 [(AV.fz (FV.sl 1 es21)), (AV.fz (FV.int .i64 n28))])]) ∧ ((((n29 == 46) = true) → (∃ es22 : LL, (∃ n30 : Int, (∃ b15 : Bool, ((Fn Tryz.prog 67 [(TV.one (AV.ptr 0 0 0 110)), (TV.one (AV.fz (FV.int .i64 2)))] [(Ob.g 110 [(AV.fz (FV.sl 1 es21)), (AV.fz (FV.int .i64 n28))])] (TV.one (AV.fz (FV.bool b15))) [(Ob.g 110 [(AV.fz (FV.sl 1 es22)), (AV.fz (FV.int .i64 n30))])]) ∧ ((((Bool.not b15) = true) → (R (TV.agg [(AV.fz (FV.int .i64 4)), (AV.fz (FV.str (ByteArray.mk #[]))), (AV.fz (FV.int .i64 0)), (AV.fz (FV.str (ByteArray.mk #[]))), (AV.fz (FV.bool false)), (AV.ofl 1 1), (AV.ofl 6 2), (AV.fz (FV.int .i64 0)), (AV.fz (FV.int .i64 p))]) [(Ob.g 110 [(AV.fz (FV.sl 1 es22)), (AV.fz (FV.int .i64 (IntKind.wrap .i64 (n30 + 1))))]), (Ob.f 0 1 ([] : LL)), (Ob.f 0 6 ([] : LL))])) ∧ (((Bool.not b15) = false) → (∃ es23 : LL, (∃ n31 : Int, (∃ n32 : Int, ((Fn Tryz.prog 101 [(TV.one (AV.ptr 0 0 0 110)), (TV.one (AV.fz (FV.int .i64 1)))] [(Ob.g 110 [(AV.fz (FV.sl 1 es22)), (AV.fz (FV.int .i64 n30))])] (TV.one (AV.fz (FV.int .i64 n32))) [(Ob.g 110 [(AV.fz (FV.sl 1 es23)), (AV.fz (FV.int .i64 n31))])]) ∧ (∃ b16 : Bool, ((Fn Tryz.prog 104 [(TV.one (AV.fz (FV.int .i64 n32)))] [] (TV.one (AV.fz (FV.bool b16))) []) ∧ (((b16 = true) → (R (TV.agg [(AV.fz (FV.int .i64 4)), (AV.fz (FV.str (ByteArray.mk #[]))), (AV.fz (FV.int .i64 0)), (AV.fz (FV.str (ByteArray.mk #[]))), (AV.fz (FV.bool false)), (AV.ofl 1 1), (AV.ofl 6 2), (AV.fz (FV.int .i64 0)), (AV.fz (FV.int .i64 p))]) [(Ob.g 110 [(AV.fz (FV.sl 1 es23)), (AV.fz (FV.int .i64 (IntKind.wrap .i64 (n31 + 1))))]), (Ob.f 0 1 ([] : LL)), (Ob.f 0 6 ([] : LL))])) ∧ ((b16 = false) → (∃ es24 : LL, (∃ n33 : Int, (∃ n34 : Int, (∃ s10 : ByteArray, (∃ b17 : Bool, (∃ es25 : LL, (∃ es26 : LL, (∃ n35 : Int, (∃ b18 : Bool, ((Fn Tryz.prog 105 [(TV.one (AV.ptr 0 0 0 110))] [(Ob.g 110 [(AV.fz (FV.sl 1 es23)), (AV.fz (FV.int .i64 n31))])] (TV.tup [(true, [(AV.fz (FV.int .i64 n34)), (AV.fz (FV.str s10)), (AV.fz (FV.bool b17)), (AV.fz (FV.sl 1 es25)), (AV.fz (FV.sl 6 es26)), (AV.fz (FV.int .i64 n35))]), (false, [(AV.fz (FV.bool b18))])]) [(Ob.g 110 [(AV.fz (FV.sl 1 es24)), (AV.fz (FV.int .i64 n33))])]) ∧ ((((Bool.not b18) = true) → (RX (FV.ifv 106 true [(FV.int .i64 p)]) [(Ob.g 110 [AV.und, AV.und])])) ∧ (((Bool.not b18) = false) → (R (TV.agg [(AV.fz (FV.int .i64 7)), (AV.fz (FV.str (ByteArray.mk #[]))), (AV.fz (FV.int .i64 n34)), (AV.fz (FV.str s10)), (AV.fz (FV.bool b17)), (AV.fz (FV.sl 1 es25)), (AV.fz (FV.sl 6 es26)), (AV.fz (FV.int .i64 p)), (AV.fz (FV.int .i64 p))]) [(Ob.g 110 [(AV.fz (FV.sl 1 es24)), (AV.fz (FV.int .i64 n33))])])))))))))))))))))))))))))))) ∧ (((n29 == 46) = false) → (∃ es27 : LL, (∃ n36 : Int, (∃ n37 : Int, (∃ s11 : ByteArray, (∃ b19 : Bool, (∃ es28 : LL, (∃ es29 : LL, (∃ n38 : Int, (∃ b20 : Bool, ((Fn Tryz.prog 105 [(TV.one (AV.ptr 0 0 0 110))] [(Ob.g 110 [(AV.fz (FV.sl 1 es21)), (AV.fz (FV.int .i64 n28))])] (TV.tup [(true, [(AV.fz (FV.int .i64 n37)), (AV.fz (FV.str s11)), (AV.fz (FV.bool b19)), (AV.fz (FV.sl 1 es28)), (AV.fz (FV.sl 6 es29)), (AV.fz (FV.int .i64 n38))]), (false, [(AV.fz (FV.bool b20))])]) [(Ob.g 110 [(AV.fz (FV.sl 1 es27)), (AV.fz (FV.int .i64 n36))])]) ∧ ((((Bool.not b20) = true) → (RX (FV.ifv 106 true [(FV.int .i64 p)]) [(Ob.g 110 [AV.und, AV.und])])) ∧ (((Bool.not b20) = false) → (R (TV.agg [(AV.fz (FV.int .i64 7)), (AV.fz (FV.str (ByteArray.mk #[]))), (AV.fz (FV.int .i64 n37)), (AV.fz (FV.str s11)), (AV.fz (FV.bool b19)), (AV.fz (FV.sl 1 es28)), (AV.fz (FV.sl 6 es29)), (AV.fz (FV.int .i64 p)), (AV.fz (FV.int .i64 p))]) [(Ob.g 110 [(AV.fz (FV.sl 1 es27)), (AV.fz (FV.int .i64 n36))])])))))))))))))))))))))
theorem token_scanner_nextO_l0 {R : TV → List Ob → Prop} {RX : FV → List Ob → Prop} {p : Int} {i : Int} {o : LL} {o1 : Int} (h : token_scanner_nextO_R0 R RX p i o o1) : token_scanner_nextO_L0 R RX p i o o1 :=
 LoopAt.by_tr (by kernel_rfl) (by kernel_rfl) h
def token_scanner_nextO_H (R : TV → List Ob → Prop) (RX : FV → List Ob → Prop) (tx : List (List FV)) (p : Int) : Prop :=
 (token_scanner_nextO_L0 R RX p 0 tx p)
theorem token_scanner_nextO_fc (tx : LL) (p : Int) {r : TV} {h : List Ob} (H : token_scanner_nextO_H (fun r' h' => Cool 1 r' h' r h) (fun _ _ => False) tx p) : Fn Tryz.prog 68 [(TV.one (AV.ptr 0 0 0 110))] [(Ob.g 110 [(AV.fz (FV.sl 1 tx)), (AV.fz (FV.int .i64 p))])] r h :=
 Fn.by_trC (M := (modeX [] [(67, [(Sig.mk 1 [(false, [(AT.k CK.bool)])] [(OT.g 110 [(AT.k (CK.sl 1)), (AT.k (CK.int .i64))])] 0)]), (101, [(Sig.mk 1 [(false, [(AT.k (CK.int .i64))])] [(OT.g 110 [(AT.k (CK.sl 1)), (AT.k (CK.int .i64))])] 0)]), (103, [(Sig.mk 1 [(false, [(AT.k CK.bool)])] [(OT.g 110 [(AT.k (CK.sl 1)), (AT.k (CK.int .i64))])] 0)]), (105, [(Sig.mk 1 [(true, [(AT.k (CK.int .i64)), (AT.k CK.str), (AT.k CK.bool), (AT.k (CK.sl 1)), (AT.k (CK.sl 6)), (AT.k (CK.int .i64))]), (false, [(AT.k CK.bool)])] [(OT.g 110 [(AT.k (CK.sl 1)), (AT.k (CK.int .i64))])] 0)])] [] 1 (fun _ _ => False))) (lv := token_scanner_nextO_lv) (own := (some 1)) (F := Tryz.f68) (by kernel_rfl) (by kernel_rfl) (by first | decide | simp) (fun _ _ h => h) (by kernel_rfl) H
theorem token_scanner_nextO_fx (tx : LL) (p : Int) {x : FV} (H : token_scanner_nextO_H (fun _ _ => False) (fun x' h' => x' = x ∧ h' = shH [(Ob.g 110 [(AV.fz (FV.sl 1 tx)), (AV.fz (FV.int .i64 p))])]) tx p) : FnX Tryz.prog 68 [(TV.one (AV.ptr 0 0 0 110))] [(Ob.g 110 [(AV.fz (FV.sl 1 tx)), (AV.fz (FV.int .i64 p))])] x :=
 FnX.by_tr (M := (modeX [] [(67, [(Sig.mk 1 [(false, [(AT.k CK.bool)])] [(OT.g 110 [(AT.k (CK.sl 1)), (AT.k (CK.int .i64))])] 0)]), (101, [(Sig.mk 1 [(false, [(AT.k (CK.int .i64))])] [(OT.g 110 [(AT.k (CK.sl 1)), (AT.k (CK.int .i64))])] 0)]), (103, [(Sig.mk 1 [(false, [(AT.k CK.bool)])] [(OT.g 110 [(AT.k (CK.sl 1)), (AT.k (CK.int .i64))])] 0)]), (105, [(Sig.mk 1 [(true, [(AT.k (CK.int .i64)), (AT.k CK.str), (AT.k CK.bool), (AT.k (CK.sl 1)), (AT.k (CK.sl 6)), (AT.k (CK.int .i64))]), (false, [(AT.k CK.bool)])] [(OT.g 110 [(AT.k (CK.sl 1)), (AT.k (CK.int .i64))])] 0)])] [] 1 (fun x' h' => x' = x ∧ h' = shH [(Ob.g 110 [(AV.fz (FV.sl 1 tx)), (AV.fz (FV.int .i64 p))])]))) (lv := token_scanner_nextO_lv) (own := (some 1)) (F := Tryz.f68) (by kernel_rfl) (by kernel_rfl) (by first | decide | simp) (fun _ _ h => h) (by kernel_rfl) H
end
section
def scanD0_lv : List Nat → Keep := lvOf []
def scanD0_H (R : TV → List Ob → Prop) (a : Int) (e : Int) (l : List (List FV)) : Prop :=
 ((((Bool.not (Bool.not false)) = true) → False) ∧ (((Bool.not (Bool.not false)) = false) → (R (TV.tup []) [(Ob.g 62 [(AV.ofl 9 3)]), (Ob.g 3 [(AV.fz (FV.int .i64 a))]), (Ob.g 24 [(AV.fz (FV.int .i64 e))]), (Ob.f 0 9 l)])))
theorem scanD0_fn (a : Int) (e : Int) (l : LL) {h : List Ob} (H : scanD0_H (fun _ h' => Wk h' h) a e l) : FnDf Tryz.prog 65 [(TV.one (AV.ptr 0 0 0 62)), (TV.one (AV.ptr 1 0 0 3)), (TV.one (AV.ptr 2 0 0 24))] [(Ob.g 62 [(AV.ofl 9 3)]), (Ob.g 3 [(AV.fz (FV.int .i64 a))]), (Ob.g 24 [(AV.fz (FV.int .i64 e))]), (Ob.f 0 9 l)] none h :=
 FnDf.by_trR (M := (modeOf [] [])) (lv := scanD0_lv) (own := (some 4)) (F := Tryz.f65) (by kernel_rfl) (by kernel_rfl) (by first | decide | simp) (fun _ _ h => h) (by kernel_rfl) H
def scanDx_lv : List Nat → Keep := lvOf []
def scanDx_H (R : TV → List Ob → Prop) (q : Int) : Prop :=
 ((((Bool.not false) = true) → (R (TV.tup []) [(Ob.g 62 [(AV.nsl 9)]), (Ob.g 3 [(AV.fz (FV.int .i64 q))]), (Ob.g 24 [(AV.fz (FV.int .i64 3))])])) ∧ (((Bool.not false) = false) → (R (TV.tup []) [(Ob.g 62 [AV.und]), (Ob.g 3 [AV.und]), (Ob.g 24 [AV.und])])))
theorem scanDx_fn (q : Int) {h : List Ob} (H : scanDx_H (fun _ h' => Wk h' h) q) : FnDf Tryz.prog 65 [(TV.one (AV.ptr 0 0 0 62)), (TV.one (AV.ptr 1 0 0 3)), (TV.one (AV.ptr 2 0 0 24))] [(Ob.g 62 [AV.und]), (Ob.g 3 [AV.und]), (Ob.g 24 [AV.und])] (some (FV.ifv 106 true [(FV.int .i64 q)])) h :=
 FnDf.by_trR (M := (modeOf [] [])) (lv := scanDx_lv) (own := (some 3)) (F := Tryz.f65) (by kernel_rfl) (by kernel_rfl) (by first | decide | simp) (fun _ _ h => h) (by kernel_rfl) H
def token_Scan_lv : List Nat → Keep := lvOf [([0, 1, 0, 1, 1, 1, 1], ⟨92, 0, [], false, false⟩)]
def token_Scan_S0 (es : LL) (n1 : Int) (o : LL) : St := (St.mk [TV.und, TV.und, (TV.one (AV.ptr 0 0 0 0)), (TV.one (AV.ptr 1 0 0 0)), (TV.one (AV.ptr 2 0 0 0)), TV.und, (TV.one (AV.ptr 3 0 0 0)), TV.und, TV.und, TV.und, TV.und, TV.und, TV.und, TV.und, TV.und, TV.und, TV.und, TV.und, TV.und, TV.und, TV.und, TV.und, TV.und, TV.und, TV.und, TV.und, TV.und, TV.und] [(Ob.g 62 [(AV.ofl 9 4)]), (Ob.g 3 [(AV.fz (FV.int .i64 0))]), (Ob.g 24 [(AV.fz (FV.int .i64 0))]), (Ob.g 110 [(AV.fz (FV.sl 1 es)), (AV.fz (FV.int .i64 n1))]), (Ob.f 0 9 o)])
def token_Scan_L0 (R : TV → List Ob → Prop) (RX : FV → List Ob → Prop) (es : LL) (n1 : Int) (o : LL) : Prop := LoopAtD Tryz.prog (modeX [] [(67, [(Sig.mk 1 [(false, [(AT.k CK.bool)])] [(OT.g 110 [(AT.k (CK.sl 1)), (AT.k (CK.int .i64))])] 0)]), (66, [(Sig.mk 1 [] [(OT.g 110 [(AT.k (CK.sl 1)), (AT.k (CK.int .i64))])] 0)]), (68, [(Sig.mk 1 [(true, [(AT.k (CK.int .i64)), (AT.k CK.str), (AT.k (CK.int .i64)), (AT.k CK.str), (AT.k CK.bool), (AT.k (CK.sl 1)), (AT.k (CK.sl 6)), (AT.k (CK.int .i64)), (AT.k (CK.int .i64))])] [(OT.g 110 [(AT.k (CK.sl 1)), (AT.k (CK.int .i64))])] 0)]), (65, [(Sig.mk 3 [] [(OT.g 62 [(AT.a (AV.nsl 9))]), (OT.g 3 [(AT.k (CK.int .i64))]), (OT.g 24 [(AT.k (CK.int .i64))])] 0), (Sig.mk 4 [] [(OT.g 62 [(AT.a (AV.ofl 9 3))]), (OT.g 3 [(AT.k (CK.int .i64))]), (OT.g 24 [(AT.k (CK.int .i64))]), (OT.f 0 9)] 0)])] [68] 0 RX) token_Scan_lv Tryz.f38 none R 3 [(65, [(AV.ptr 0 0 0 0), (AV.ptr 1 0 0 0), (AV.ptr 2 0 0 0)])] [1, 1, 1, 1, 0, 1, 0] (token_Scan_S0 es n1 o)
def token_Scan_R0 (R : TV → List Ob → Prop) (RX : FV → List Ob → Prop) (es : List (List FV)) (n1 : Int) (o : List (List FV)) : Prop :=
 (∃ es13 : LL, (∃ n24 : Int, (∃ b4 : Bool, ((Fn Tryz.prog 67 [(TV.one (AV.ptr 0 0 0 0)), (TV.one (AV.fz (FV.int .i64 1)))] [(Ob.g 110 [(AV.fz (FV.sl 1 es)), (AV.fz (FV.int .i64 n1))])] (TV.one (AV.fz (FV.bool b4))) [(Ob.g 110 [(AV.fz (FV.sl 1 es13)), (AV.fz (FV.int .i64 n24))])]) ∧ (((b4 = true) → ((∃ v2 : FV, ((FnX Tryz.prog 68 [(TV.one (AV.ptr 0 0 0 0))] [(Ob.g 110 [(AV.fz (FV.sl 1 es13)), (AV.fz (FV.int .i64 n24))])] v2) ∧ (∃ n25 : Int, (∃ n26 : Int, ((FnDf Tryz.prog 65 [(TV.one (AV.ptr 0 0 0 0)), (TV.one (AV.ptr 1 0 0 0)), (TV.one (AV.ptr 2 0 0 0))] [(Ob.g 62 [AV.und]), (Ob.g 3 [AV.und]), (Ob.g 24 [AV.und])] (some v2) [(Ob.g 62 [(AV.nsl 9)]), (Ob.g 3 [(AV.fz (FV.int .i64 n25))]), (Ob.g 24 [(AV.fz (FV.int .i64 n26))])]) ∧ (R (TV.tup [(false, [(AV.fz (FV.sl 9 ([] : LL)))]), (false, [(AV.fz (FV.int .i64 n25))]), (false, [(AV.fz (FV.int .i64 n26))])]) [])))))) ∨ (∃ es14 : LL, (∃ n27 : Int, (∃ n28 : Int, (∃ s4 : ByteArray, (∃ n29 : Int, (∃ s5 : ByteArray, (∃ b5 : Bool, (∃ es15 : LL, (∃ es16 : LL, (∃ n30 : Int, (∃ n31 : Int, ((Fn Tryz.prog 68 [(TV.one (AV.ptr 0 0 0 0))] [(Ob.g 110 [(AV.fz (FV.sl 1 es13)), (AV.fz (FV.int .i64 n24))])] (TV.agg [(AV.fz (FV.int .i64 n28)), (AV.fz (FV.str s4)), (AV.fz (FV.int .i64 n29)), (AV.fz (FV.str s5)), (AV.fz (FV.bool b5)), (AV.fz (FV.sl 1 es15)), (AV.fz (FV.sl 6 es16)), (AV.fz (FV.int .i64 n30)), (AV.fz (FV.int .i64 n31))]) [(Ob.g 110 [(AV.fz (FV.sl 1 es14)), (AV.fz (FV.int .i64 n27))])]) ∧ (((((List.length o) + (List.length [[(FV.int .i64 n28), (FV.str s4), (FV.int .i64 n29), (FV.str s5), (FV.bool b5), (FV.sl 1 es15), (FV.sl 6 es16), (FV.int .i64 n30), (FV.int .i64 n31)]])) * 120) ≤ 220000000000000) ∧ (∃ es17 : LL, (∃ n32 : Int, ((Fn Tryz.prog 66 [(TV.one (AV.ptr 0 0 0 0))] [(Ob.g 110 [(AV.fz (FV.sl 1 es14)), (AV.fz (FV.int .i64 n27))])] (TV.tup []) [(Ob.g 110 [(AV.fz (FV.sl 1 es17)), (AV.fz (FV.int .i64 n32))])]) ∧ (token_Scan_L0 R RX es17 n32 (o ++ [[(FV.int .i64 n28), (FV.str s4), (FV.int .i64 n29), (FV.str s5), (FV.bool b5), (FV.sl 1 es15), (FV.sl 6 es16), (FV.int .i64 n30), (FV.int .i64 n31)]])))))))))))))))))))) ∧ ((b4 = false) → (∃ n33 : Int, (∃ n34 : Int, (∃ es18 : LL, ((FnDf Tryz.prog 65 [(TV.one (AV.ptr 0 0 0 0)), (TV.one (AV.ptr 1 0 0 0)), (TV.one (AV.ptr 2 0 0 0))] [(Ob.g 62 [(AV.ofl 9 3)]), (Ob.g 3 [(AV.fz (FV.int .i64 0))]), (Ob.g 24 [(AV.fz (FV.int .i64 0))]), (Ob.f 0 9 o)] none [(Ob.g 62 [(AV.ofl 9 3)]), (Ob.g 3 [(AV.fz (FV.int .i64 n33))]), (Ob.g 24 [(AV.fz (FV.int .i64 n34))]), (Ob.f 0 9 es18)]) ∧ (R (TV.tup [(false, [(AV.fz (FV.sl 9 es18))]), (false, [(AV.fz (FV.int .i64 n33))]), (false, [(AV.fz (FV.int .i64 n34))])]) [])))))))))))
theorem token_Scan_l0 {R : TV → List Ob → Prop} {RX : FV → List Ob → Prop} {es : LL} {n1 : Int} {o : LL} (h : token_Scan_R0 R RX es n1 o) : token_Scan_L0 R RX es n1 o :=
 LoopAtD.by_tr (by kernel_rfl) (by kernel_rfl) h
def token_Scan_H (R : TV → List Ob → Prop) (RX : FV → List Ob → Prop) (tx : List (List FV)) : Prop :=
 (∃ n24 : Int, ((Fn Tryz.prog 62 [(TV.one (AV.fz (FV.sl 1 tx))), (TV.one (AV.fz (FV.fn 63 [])))] [] (TV.one (AV.fz (FV.int .i64 n24))) []) ∧ ((((decide ((0 : Int) ≤ n24)) = true) → (R (TV.tup [(false, [(AV.fz (FV.sl 9 ([] : LL)))]), (false, [(AV.fz (FV.int .i64 n24))]), (false, [(AV.fz (FV.int .i64 1))])]) [])) ∧ (((decide ((0 : Int) ≤ n24)) = false) → (∃ es13 : LL, (∃ n25 : Int, ((Fn Tryz.prog 66 [(TV.one (AV.ptr 0 0 0 0))] [(Ob.g 110 [(AV.fz (FV.sl 1 tx)), (AV.fz (FV.int .i64 0))])] (TV.tup []) [(Ob.g 110 [(AV.fz (FV.sl 1 es13)), (AV.fz (FV.int .i64 n25))])]) ∧ (token_Scan_L0 R RX es13 n25 ([] : LL)))))))))
theorem token_Scan_fn (tx : LL) {r : TV} {h : List Ob} (H : token_Scan_H (fun r' h' => r' = r ∧ Wk h' h) (fun _ _ => False) tx) : Fn Tryz.prog 38 [(TV.one (AV.fz (FV.sl 1 tx)))] [] r h :=
 Fn.by_trD (M := (modeX [] [(67, [(Sig.mk 1 [(false, [(AT.k CK.bool)])] [(OT.g 110 [(AT.k (CK.sl 1)), (AT.k (CK.int .i64))])] 0)]), (66, [(Sig.mk 1 [] [(OT.g 110 [(AT.k (CK.sl 1)), (AT.k (CK.int .i64))])] 0)]), (68, [(Sig.mk 1 [(true, [(AT.k (CK.int .i64)), (AT.k CK.str), (AT.k (CK.int .i64)), (AT.k CK.str), (AT.k CK.bool), (AT.k (CK.sl 1)), (AT.k (CK.sl 6)), (AT.k (CK.int .i64)), (AT.k (CK.int .i64))])] [(OT.g 110 [(AT.k (CK.sl 1)), (AT.k (CK.int .i64))])] 0)]), (65, [(Sig.mk 3 [] [(OT.g 62 [(AT.a (AV.nsl 9))]), (OT.g 3 [(AT.k (CK.int .i64))]), (OT.g 24 [(AT.k (CK.int .i64))])] 0), (Sig.mk 4 [] [(OT.g 62 [(AT.a (AV.ofl 9 3))]), (OT.g 3 [(AT.k (CK.int .i64))]), (OT.g 24 [(AT.k (CK.int .i64))]), (OT.f 0 9)] 0)])] [68] 0 (fun _ _ => False))) (lv := token_Scan_lv) (own := none) (n := 3) (F := Tryz.f38) (by kernel_rfl) (by kernel_rfl) (by first | decide | simp) (by kernel_rfl) H
def ixScal_lv : List Nat → Keep := lvOf [([0, 1, 0, 1], ⟨387, 0, [], false, false⟩)]
def ixScal_S0 (s : LL) (i : Int) : St := (St.mk [(TV.one (AV.fz (FV.sl 1 s))), (TV.one (AV.fz (FV.fn 63 []))), TV.und, TV.und, TV.und, TV.und, TV.und, (TV.one (AV.fz (FV.int .i64 (((List.length s) : Nat) : Int)))), (TV.one (AV.fz (FV.int .i64 i))), TV.und, TV.und, TV.und, TV.und, TV.und, TV.und, TV.und, TV.und, TV.und, TV.und] [])
def ixScal_L0 (R : TV → List Ob → Prop) (s : LL) (i : Int) : Prop := LoopAt Tryz.prog (modeOf [] []) ixScal_lv Tryz.f62 none R [1, 0, 1, 0] (ixScal_S0 s i)
def ixScal_R0 (R : TV → List Ob → Prop) (s : List (List FV)) (i : Int) : Prop :=
 ((((decide (i < (((List.length s) : Nat) : Int))) = true) → (((0 : Int) ≤ i) ∧ (∃ n2 : Int, (((s)[(Int.toNat i)]? = (some [(FV.int .i64 n2)])) ∧ (∃ b2 : Bool, ((Fn Tryz.prog 63 [(TV.one (AV.fz (FV.int .i64 n2)))] [] (TV.one (AV.fz (FV.bool b2))) []) ∧ (((b2 = true) → (R (TV.one (AV.fz (FV.int .i64 i))) [])) ∧ ((b2 = false) → (ixScal_L0 R s (IntKind.wrap .i64 (i + 1))))))))))) ∧ (((decide (i < (((List.length s) : Nat) : Int))) = false) → (R (TV.one (AV.fz (FV.int .i64 (-1)))) [])))
theorem ixScal_l0 {R : TV → List Ob → Prop} {s : List (List FV)} {i : Int} (h : ixScal_R0 R s i) : ixScal_L0 R s i :=
 LoopAt.by_tr (by kernel_rfl) (by kernel_rfl) h
def ixScal_H (R : TV → List Ob → Prop) (s : List (List FV)) : Prop :=
 (ixScal_L0 R s 0)
theorem ixScal_fn (s : LL) {r : TV} {h : List Ob} (H : ixScal_H (fun r' h' => r' = r ∧ h' = h) s) : Fn Tryz.prog 62 [(TV.one (AV.fz (FV.sl 1 s))), (TV.one (AV.fz (FV.fn 63 [])))] [] r h :=
 Fn.by_tr (M := (modeOf [] [])) (lv := ixScal_lv) (own := none) (F := Tryz.f62) (by kernel_rfl) (by kernel_rfl) (by first | decide | simp) (fun _ _ h => h) (by kernel_rfl) H
end
section
theorem Ty.inv_bool {P : Program} {t : TypeId} {fs : List FV} (h : Ty P t fs) (hu : P.underlying t = some .bool) : ∃ b, fs = [.bool b] := by
 cases h <;> simp_all
theorem Ty.inv_int {P : Program} {t : TypeId} {k : IntKind} {fs : List FV} (h : Ty P t fs) (hu : P.underlying t = some (.int k)) : ∃ n, fs = [.int k n] ∧ k.min ≤ n ∧ n ≤ k.max := by
 cases h <;> simp_all
theorem Ty.inv_str {P : Program} {t : TypeId} {fs : List FV} (h : Ty P t fs) (hu : P.underlying t = some .string) : ∃ s, fs = [.str s] ∧ s.size ≤ reachBytes := by
 cases h <;> simp_all
theorem Ty.inv_sl {P : Program} {t e : TypeId} {fs : List FV} (h : Ty P t fs) (hu : P.underlying t = some (.slice e)) : ∃ es, fs = [.sl (P.cellsOf e) es] ∧ es.length * P.bytesOf e ≤ reachBytes ∧ ∀ x ∈ es, Ty P e x := by
 cases h <;> simp_all
theorem Ty.inv_struct {P : Program} {t : TypeId} {ds : Array Field} {fs : List FV} (h : Ty P t fs) (hu : P.underlying t = some (.struct ds)) : ∃ parts : List (List FV), fs = parts.flatten ∧ parts.length = ds.size ∧ ∀ (i : Nat) (f : Field) (x : List FV), ds[i]? = some f → parts[i]? = some x → Ty P f.type x := by
 cases h <;> simp_all
 exact ⟨_, rfl, ‹_›, ‹_›⟩
theorem Ty.inv_ints {P : Program} {t e : TypeId} {k : IntKind} {fs : List FV} (h : Ty P t fs) (hu : P.underlying t = some (.slice e)) (he : P.underlying e = some (.int k)) (hc : P.cellsOf e = 1) :
  ∃ l, fs = [.sl 1 (ints k l)] ∧ (∀ x ∈ l, k.min ≤ x ∧ x ≤ k.max) ∧ l.length * P.bytesOf e ≤ reachBytes := by
 obtain ⟨es, rfl, h1, h2⟩ := h.inv_sl hu
 have : ∃ l, es = ints k l ∧ ∀ x ∈ l, k.min ≤ x ∧ x ≤ k.max := by
  clear h1 h
  induction es with
  | nil => exact ⟨[], rfl, by simp⟩
  | cons x es ih =>
   obtain ⟨l, rfl, h3⟩ := ih fun y hy => h2 y (List.mem_cons_of_mem _ hy)
   obtain ⟨n, rfl, h4, h5⟩ := (h2 x List.mem_cons_self).inv_int he
   exact ⟨n :: l, by simp [ints], fun y hy => by
    rcases List.mem_cons.1 hy with rfl | hy
    ·exact ⟨h4, h5⟩
    ·exact h3 y hy⟩
 obtain ⟨l, rfl, h3⟩ := this
 exact ⟨l, by rw [hc], h3, by rwa [ints_len] at h1⟩
theorem two_parts {α : Type} {l : List α} (h : l.length = 2) : ∃ a b, l = [a, b] := by
 match l, h with
 | [a, b], _ => exact ⟨a, b, rfl⟩
theorem ty_Int {fs : List FV} (h : Ty Tryz.prog 31 fs) : ∃ s l, fs = [.bool s, .sl 1 (ints .u32 l)] ∧ U32 l ∧ l.length * 4 ≤ reachBytes := by
 obtain ⟨parts, rfl, h1, h2⟩ := h.inv_struct Tryz.underlying31
 obtain ⟨a, b, rfl⟩ := two_parts h1
 obtain ⟨s, rfl⟩ := (h2 0 _ a rfl rfl).inv_bool Tryz.underlying4
 obtain ⟨l, rfl, h3, h4⟩ := (h2 1 _ b rfl rfl).inv_ints Tryz.underlying29 Tryz.underlying81 (by kernel_rfl)
 refine ⟨s, l, rfl, fun x hx => ?_, ?_⟩
 ·have := h3 x hx
  simp [IntKind.min, IntKind.max, IntKind.signed, IntKind.bits] at this
  omega
 ·have e : Tryz.prog.bytesOf 81 = 4 := by kernel_rfl
  rwa [e] at h4
end
section
inductive Dt where
 | mk (kind : Int) (text : ByteArray) (neg : Bool) (limbs : List Int) (list : List Dt) (at_ : Int)
mutual
def Dt.row : Dt → List FV
 | .mk k t n l ds a => [.int .i64 k, .str t, .bool n, .sl 1 (ints .u32 l), .sl 6 (Dt.rows ds), .int .i64 a]
def Dt.rows : List Dt → List (List FV)
 | [] => []
 | d :: ds => d.row :: Dt.rows ds
end
abbrev fzD (d : Dt) : TV := .agg (d.row.map .fz)
theorem rows_get : ∀ (ds : List Dt) (i : Nat), (Dt.rows ds)[i]? = ds[i]?.map Dt.row
 | [], i => by simp [Dt.rows]
 | d :: ds, 0 => by simp [Dt.rows]
 | d :: ds, i + 1 => by simp [Dt.rows, rows_get ds i]
theorem rows_len (ds : List Dt) : (Dt.rows ds).length = ds.length := by
 induction ds with
 | nil => rfl
 | cons d ds ih => simp [Dt.rows, ih]
theorem rows_app : ∀ (a b : List Dt), Dt.rows (a ++ b) = Dt.rows a ++ Dt.rows b
 | [], b => by simp [Dt.rows]
 | d :: a, b => by simp [Dt.rows, rows_app a b]
def I64 (n : Int) : Prop := -9223372036854775808 ≤ n ∧ n ≤ 9223372036854775807
mutual
def Dt.ok : Dt → Prop
 | .mk k t _ l ds a => I64 k ∧ t.size ≤ 1048576 ∧ U32 l ∧ l.length * 4 ≤ 140737488355328 ∧ ds.length ≤ 1048576 ∧ Dt.oks ds ∧ I64 a
def Dt.oks : List Dt → Prop
 | [] => True
 | d :: ds => d.ok ∧ Dt.oks ds
end
theorem five_parts {α : Type} {l : List α} (h : l.length = 5) : ∃ a b c d e, l = [a, b, c, d, e] := by
 match l, h with
 | [a, b, c, d, e], _ => exact ⟨a, b, c, d, e, rfl⟩
theorem bulkE_mem : ∀ {es : List (List FV)} {x : List FV}, x ∈ es → FV.bulkL x ≤ FV.bulkE es
 | e :: es, x, h => by
  unfold FV.bulkE
  rcases List.mem_cons.1 h with rfl | h
  ·omega
  ·have := bulkE_mem h; omega
theorem row_bulk (d : Dt) : 1 ≤ FV.bulkL d.row := by
 obtain ⟨k, t, n, l, ds, a⟩ := d
 simp only [Dt.row, FV.bulkL, FV.bulk]; omega
theorem rows_bulk : ∀ ds : List Dt, ds.length ≤ FV.bulkE (Dt.rows ds)
 | [] => by simp
 | d :: ds => by
  have h1 := row_bulk d
  have h2 := rows_bulk ds
  simp only [Dt.rows, FV.bulkE, List.length_cons]; omega
theorem bulk_five {a b c d e : List FV} {n : Nat} (h : FV.bulkL ([a, b, c, d, e] : List (List FV)).flatten ≤ n) : FV.bulkL a ≤ n ∧ FV.bulkL b ≤ n ∧ FV.bulkL c ≤ n ∧ FV.bulkL d ≤ n ∧ FV.bulkL e ≤ n := by
 simp only [List.flatten_cons, List.flatten_nil, bulkL_app, FV.bulkL] at h
 omega
theorem ty_Dt_aux {t : TypeId} {fs : List FV} (h : Ty Tryz.prog t fs) (hbk : FV.bulkL fs ≤ 1048576) : (t = 33 → ∃ d : Dt, fs = d.row ∧ d.ok) ∧
  (t = 23 → ∃ ds : List Dt, fs = [.sl 6 (Dt.rows ds)] ∧ ds.length ≤ 1048576 ∧ Dt.oks ds) := by
 have uD := Tryz.underlying33
 have uS := Tryz.underlying23
 induction h with
 | bool b hu => exact ⟨fun e => (by subst e; rw [uD] at hu; cases hu), fun e => (by subst e; rw [uS] at hu; cases hu)⟩
 | int n hu => exact ⟨fun e => (by subst e; rw [uD] at hu; cases hu), fun e => (by subst e; rw [uS] at hu; cases hu)⟩
 | str s hu => exact ⟨fun e => (by subst e; rw [uD] at hu; cases hu), fun e => (by subst e; rw [uS] at hu; cases hu)⟩
 | sl es hu h1 h2 ih =>
  refine ⟨fun e => (by subst e; rw [uD] at hu; cases hu), fun e => ?_⟩
  subst e
  rw [uS] at hu
  cases hu
  have hc : Tryz.prog.cellsOf 33 = 6 := by kernel_rfl
  rw [hc]
  clear h1 h2
  have hbe : FV.bulkE es ≤ 1048576 := by simp only [FV.bulkL, FV.bulk] at hbk; omega
  have : ∃ ds : List Dt, es = Dt.rows ds ∧ Dt.oks ds := by
   clear hbk
   induction es with
   | nil => exact ⟨[], by simp [Dt.rows], by simp [Dt.oks]⟩
   | cons x es ih2 =>
    have hbx := bulkE_mem (es := x :: es) List.mem_cons_self
    simp only [FV.bulkE] at hbe hbx
    obtain ⟨ds, rfl, hds⟩ := ih2 (fun y hy => ih y (List.mem_cons_of_mem _ hy)) (by omega)
    obtain ⟨d, rfl, hd⟩ := (ih x List.mem_cons_self (by omega)).1 rfl
    exact ⟨d :: ds, by simp [Dt.rows], by unfold Dt.oks; exact ⟨hd, hds⟩⟩
  obtain ⟨ds, rfl, hds⟩ := this
  exact ⟨ds, rfl, Nat.le_trans (rows_bulk ds) hbe, hds⟩
 | struct parts hu h1 h2 ih =>
  refine ⟨fun e => ?_, fun e => (by subst e; rw [uS] at hu; cases hu)⟩
  subst e
  rw [uD] at hu
  cases hu
  obtain ⟨a, b, c, d, e, rfl⟩ := five_parts h1
  obtain ⟨b1, b2, b3, b4, b5⟩ := bulk_five hbk
  obtain ⟨k, rfl, k0, k1⟩ := (h2 0 _ a rfl rfl).inv_int Tryz.underlying3
  obtain ⟨s, rfl, hs⟩ := (h2 1 _ b rfl rfl).inv_str Tryz.underlying9
  obtain ⟨n, l, rfl, hl, hl2⟩ := ty_Int (h2 2 _ c rfl rfl)
  obtain ⟨ds, rfl, hd1, hd2⟩ := (ih 3 _ d rfl rfl b4).2 rfl
  obtain ⟨p, rfl, p0, p1⟩ := (h2 4 _ e rfl rfl).inv_int Tryz.underlying3
  refine ⟨.mk k s n l ds p, by simp [Dt.row], ?_⟩
  unfold Dt.ok
  exact ⟨⟨k0, k1⟩, (by simp only [FV.bulkL, FV.bulk] at b2; omega), hl, Nat.le_trans hl2 (by decide), hd1, hd2, p0, p1⟩
theorem tyV_Dt {x : TV} (h : TyV Tryz.prog 33 x) (hb : x.bulk ≤ 1048576) : ∃ d : Dt, x = fzD d ∧ d.ok ∧ FV.bulkL d.row ≤ 1048576 := by
 rcases h with ⟨fs, rfl, h, _⟩ | ⟨f, rfl, h⟩
 ·rw [bulk_agg] at hb
  obtain ⟨d, rfl, hd⟩ := (ty_Dt_aux h hb).1 rfl
  exact ⟨d, rfl, hd, hb⟩
 ·obtain ⟨d, h, hd⟩ := (ty_Dt_aux h (by simpa [FV.bulkL, TV.bulk] using hb)).1 rfl
  cases d
  simp [Dt.row] at h
end
section
structure Tok where
 kind : Int
 name : List Int
 d : Dt
 at_ : Nat
def Tok.row (x : Tok) : List FV := [.int .i64 x.kind, .str (bytesOf x.name)] ++ x.d.row ++ [.int .i64 ((x.at_ : Nat) : Int)]
def lf (k : Int) (s : List Int) (n : Bool) (l : List Int) (a : Int) : Dt := .mk k (bytesOf s) n l [] a
abbrev lfR (k : Int) (s : List Int) (n : Bool) (l : List Int) (a : Int) : List FV := [.int .i64 k, .str (bytesOf s), .bool n, .sl 1 (ints .u32 l), .sl 6 ([] : List (List FV)), .int .i64 a]
theorem lf_row (k : Int) (s : List Int) (n : Bool) (l : List Int) (a : Int) : (lf k s n l a).row = lfR k s n l a := by simp [lf, Dt.row, Dt.rows]
def signP (r : List Int) : Int × List Int × Nat :=
 if pkL r 0 = 35 ∧ pkL r 1 = 44 ∧ pkL r 2 = 64 then (6, [117, 110, 115, 121, 110, 116, 97, 120, 45, 115, 112, 108, 105, 99, 105, 110, 103], 3)
 else if pkL r 0 = 35 ∧ pkL r 1 = 44 then (6, [117, 110, 115, 121, 110, 116, 97, 120], 2)
 else if pkL r 0 = 35 ∧ pkL r 1 = 39 then (6, [115, 121, 110, 116, 97, 120], 2)
 else if pkL r 0 = 35 ∧ pkL r 1 = 96 then (6, [113, 117, 97, 115, 105, 115, 121, 110, 116, 97, 120], 2)
 else if pkL r 0 = 35 ∧ pkL r 1 = 59 then (5, [], 2)
 else if pkL r 0 = 35 ∧ pkL r 1 = 40 then (3, [], 2)
 else if pkL r 0 = 44 ∧ pkL r 1 = 64 then (6, [117, 110, 113, 117, 111, 116, 101, 45, 115, 112, 108, 105, 99, 105, 110, 103], 2)
 else if pkL r 0 = 44 then (6, [117, 110, 113, 117, 111, 116, 101], 1)
 else if pkL r 0 = 39 then (6, [113, 117, 111, 116, 101], 1)
 else if pkL r 0 = 96 then (6, [113, 117, 97, 115, 105, 113, 117, 111, 116, 101], 1)
 else if pkL r 0 = 40 then (1, [], 1)
 else if pkL r 0 = 41 then (2, [], 1)
 else if pkL r 0 = 46 ∧ (pkL r 1 < 0 ∨ endsB (pkL r 1) = true) then (4, [], 1)
 else (0, [], 0)
def datV (f : Nat) (r : List Int) (k : Nat) : Option (Int × List Int × Bool × List Int × Nat) :=
 if pkL r 0 = 34 then (match strF f (r.drop 1) [] (k + 1) with
  | some (a, e) => if a.length ≤ 4096 then some (5, enc a, false, [], e) else none
  | none => none)
 else if pkL r 0 = 35 ∧ pkL r 1 = 92 then (if 0 ≤ chV (r.drop 2) then some (6, utfB (chV (r.drop 2)), false, [], k + 2 + chQ (r.drop 2)) else none)
 else if atomK (enc (r.take (untilN r))) ≠ 0 then some (atomK (enc (r.take (untilN r))), atomS (enc (r.take (untilN r))), atomN (enc (r.take (untilN r))), atomL (enc (r.take (untilN r))), k + untilN r) else none
def nextV (t : List Int) (p : Nat) : Option (Tok × Nat) :=
 if (signP (t.drop p)).2.2 ≠ 0 then some (⟨(signP (t.drop p)).1, (signP (t.drop p)).2.1, lf 0 [] false [] 0, p⟩, p + (signP (t.drop p)).2.2)
 else match datV (t.length + 1) (t.drop p) p with
  | some (k, s, n, l, e) => some (⟨7, [], lf k s n l p, p⟩, e)
  | none => none
abbrev datT (k : Int) (s : List Int) (n : Bool) (l : List Int) (b : Bool) : TV := .tup [(true, (lfR k s n l 0).map .fz), (false, [.fz (.bool b)])]
theorem exC1 (v : TV) (h : List Ob) : ∃ R : TV → List Ob → Prop, (∀ r' h', Cool 1 r' h' v h → R r' h') ∧ (fun r' h' => Cool 1 r' h' v h) = R := ⟨_, fun _ _ h => h, rfl⟩
theorem pkL_zero (x : Int) (r : List Int) : pkL (x :: r) 0 = x := by rw [pkL_lt (by simp)]; rfl
theorem pkL_succ (x : Int) (r : List Int) (i : Nat) : pkL (x :: r) (i + 1) = pkL r i := by
 unfold pkL
 rw [List.length_cons]
 by_cases h : i < r.length
 ·rw [if_pos (by omega), if_pos h]; rfl
 ·rw [if_neg (by omega), if_neg h]
theorem hereB_1 (c : Int) (r : List Int) (hc : 0 ≤ c) : hereB [c] r = decide (pkL r 0 = c) := by
 cases r with
 | nil => unfold hereB; rw [pkL_ge (by simp)]; simp; omega
 | cons x r => unfold hereB hereB; rw [pkL_zero, Bool.and_true]
theorem hereB_2 (c d : Int) (r : List Int) (hc : 0 ≤ c) (hd : 0 ≤ d) : hereB [c, d] r = decide (pkL r 0 = c ∧ pkL r 1 = d) := by
 cases r with
 | nil => unfold hereB; rw [pkL_ge (by simp)]; simp; omega
 | cons x r =>
  unfold hereB
  rw [hereB_1 d r hd, pkL_zero, pkL_succ, ← Bool.decide_and]
theorem hereB_3 (c d e : Int) (r : List Int) (hc : 0 ≤ c) (hd : 0 ≤ d) (he : 0 ≤ e) : hereB [c, d, e] r = decide (pkL r 0 = c ∧ pkL r 1 = d ∧ pkL r 2 = e) := by
 cases r with
 | nil => unfold hereB; rw [pkL_ge (by simp)]; simp; omega
 | cons x r =>
  unfold hereB
  rw [hereB_2 d e r hd he, pkL_zero, pkL_succ, pkL_succ, ← Bool.decide_and]
theorem pkL_pos {r : List Int} {i : Nat} (h : 0 ≤ pkL r i) : i < r.length := by
 unfold pkL at h
 split at h
 ·assumption
 ·omega
theorem enc_le {t : List Int} (hlen : t.length ≤ 4000000) (p n : Nat) : (enc ((t.drop p).take n)).length ≤ 16777216 := by
 have h := enc_len ((t.drop p).take n)
 have h2 : ((t.drop p).take n).length ≤ t.length := by simp; omega
 omega
theorem sDatum_ok (t : List Int) (hs : Scals t) (hlen : t.length ≤ 4000000) (p : Nat) (hp : p < t.length) :
  ∃ k s n l b q, Fn Tryz.prog 105 [scP] (scM t p) (datT k s n l b) (scM t q) ∧ datV (t.length + 1) (t.drop p) p = if b = true then some (k, s, n, l, q) else none := by
 have hH1 := sHere_ok t hs (by omega) p (by omega) [34] (by intro x hx; simp at hx; omega) (by simp)
 have hH2 := sHere_ok t hs (by omega) p (by omega) [35, 92] (by intro x hx; simp at hx; omega) (by simp)
 rw [show bytesOf [34] = ByteArray.mk #[34] from by decide +kernel, hereB_1 _ _ (by omega)] at hH1
 rw [show bytesOf [35, 92] = ByteArray.mk #[35, 92] from by decide +kernel, hereB_2 _ _ _ (by omega) (by omega)] at hH2
 unfold datV
 by_cases c1 : pkL (t.drop p) 0 = 34
 ·have hS := sStr_ok t hs (by omega) (p + 1) (by omega)
  rw [if_pos c1, List.drop_drop]
  rw [decide_eq_true c1] at hH1
  have key : ∀ (a : List Int) (b : Bool) (q : Nat), Fn Tryz.prog 132 [scP] (scM t (p + 1)) (.tup [(false, [.fz (.str (bytesOf a))]), (false, [.fz (.bool b)])]) (scM t q) →
    Fn Tryz.prog 105 [scP] (scM t p) (datT 5 a false [] b) (scM t q) := by
   intro a b q hF
   refine token_scanner_datumO_fc _ _ ?_
   obtain ⟨R, hR, hRe⟩ := exC1 (datT 5 a false [] b) (scM t q); rw [hRe]; clear hRe
   unfold token_scanner_datumO_H
   refine ⟨_, _, _, hH1, fun _ => ⟨_, _, _, _, ?_, hR _ _ ⟨rfl, Wk.refl _, rfl⟩⟩, fun h => absurd h (by decide)⟩
   rw [w64 (by omega) (by omega)]
   exact hF
  cases hst : strF (t.length + 1) (t.drop (p + 1)) [] (p + 1) with
  | none =>
   rw [hst] at hS
   exact ⟨5, [], false, [], false, _, key _ _ _ hS, rfl⟩
  | some ae =>
   obtain ⟨a, e⟩ := ae
   rw [hst, strP_some _ _ _ _ _ _ hst] at hS
   refine ⟨5, enc a, false, [], decide (a.length ≤ 4096), e, key _ _ _ hS, ?_⟩
   simp only
   by_cases hl : a.length ≤ 4096
   ·rw [if_pos hl, decide_eq_true hl, if_pos rfl]
   ·rw [if_neg hl, decide_eq_false hl, if_neg (by simp)]
 ·rw [if_neg c1]
  rw [decide_eq_false c1] at hH1
  by_cases c2 : pkL (t.drop p) 0 = 35 ∧ pkL (t.drop p) 1 = 92
  ·rw [if_pos c2]
   rw [decide_eq_true c2] at hH2
   have h2 : p + 2 ≤ t.length := by
    have := pkL_pos (r := t.drop p) (i := 1) (by omega)
    rw [List.length_drop] at this
    omega
   have hC := sChar_ok t hs hlen (p + 2) h2
   refine ⟨6, chX (t.drop (p + 2)), false, [], decide (0 ≤ chV (t.drop (p + 2))), p + 2 + chQ (t.drop (p + 2)), ?_, ?_⟩
   ·refine token_scanner_datumO_fc _ _ ?_
    obtain ⟨R, hR, hRe⟩ := exC1 (datT 6 (chX (t.drop (p + 2))) false [] (decide (0 ≤ chV (t.drop (p + 2))))) (scM t (p + 2 + chQ (t.drop (p + 2)))); rw [hRe]; clear hRe
    unfold token_scanner_datumO_H
    refine ⟨_, _, _, hH1, fun h => absurd h (by decide), fun _ => ⟨_, _, _, hH2, fun _ => ⟨_, _, _, _, ?_, hR _ _ ⟨rfl, Wk.refl _, rfl⟩⟩, fun h => absurd h (by decide)⟩⟩
    rw [w64 (by omega) (by omega)]
    exact hC
   ·rw [List.drop_drop]
    by_cases hv : 0 ≤ chV (t.drop (p + 2))
    ·rw [if_pos hv, decide_eq_true hv, if_pos rfl]
     have : chX (t.drop (p + 2)) = utfB (chV (t.drop (p + 2))) := by
      unfold chX
      rw [if_neg (fun e => by rw [e] at hv; exact absurd hv (by decide)), if_pos hv]
     rw [this]
    ·rw [if_neg hv, decide_eq_false hv, if_neg (by simp)]
  ·rw [if_neg c2]
   rw [decide_eq_false c2] at hH2
   have hW := sWhile_ok t hs (by omega) p 0 (by omega)
   rw [Nat.add_zero, Nat.zero_add] at hW
   have hbB : Bytes (enc ((t.drop p).take (untilN (t.drop p)))) := enc_bytes ((hs.drop p).take _)
   have hA := tAtom_ok (enc ((t.drop p).take (untilN (t.drop p)))) hbB (enc_le hlen _ _)
   refine ⟨atomK (enc ((t.drop p).take (untilN (t.drop p)))), atomS (enc ((t.drop p).take (untilN (t.drop p)))), atomN (enc ((t.drop p).take (untilN (t.drop p)))), atomL (enc ((t.drop p).take (untilN (t.drop p)))), decide (atomK (enc ((t.drop p).take (untilN (t.drop p)))) ≠ 0), p + untilN (t.drop p), ?_, ?_⟩
   ·refine token_scanner_datumO_fc _ _ ?_
    obtain ⟨R, hR, hRe⟩ := exC1 (datT (atomK (enc ((t.drop p).take (untilN (t.drop p))))) (atomS (enc ((t.drop p).take (untilN (t.drop p))))) (atomN (enc ((t.drop p).take (untilN (t.drop p))))) (atomL (enc ((t.drop p).take (untilN (t.drop p))))) (decide (atomK (enc ((t.drop p).take (untilN (t.drop p)))) ≠ 0))) (scM t (p + untilN (t.drop p))); rw [hRe]; clear hRe
    unfold token_scanner_datumO_H
    exact ⟨_, _, _, hH1, fun h => absurd h (by decide), fun _ => ⟨_, _, _, hH2, fun h => absurd h (by decide), fun _ => ⟨_, _, _, hW, _, _, _, _, _, _, _, hA, hR _ _ ⟨rfl, Wk.refl _, rfl⟩⟩⟩⟩
   ·by_cases hk : atomK (enc ((t.drop p).take (untilN (t.drop p)))) ≠ 0
    ·rw [if_pos hk, decide_eq_true hk, if_pos rfl]
    ·rw [if_neg hk, decide_eq_false hk, if_neg (by simp)]
theorem sNext_H (t : List Int) (hs : Scals t) (hlen : t.length ≤ 4000000) (p : Nat) (hp : p < t.length) (R : TV → List Ob → Prop) (RX : FV → List Ob → Prop)
  (hR : ∀ tok q, nextV t p = some (tok, q) → ∀ r' h', Cool 1 r' h' (.agg (tok.row.map .fz)) (scM t q) → R r' h')
  (hX : nextV t p = none → RX (.ifv 106 true [.int .i64 ((p : Nat) : Int)]) (shH (scM t p))) :
  token_scanner_nextO_H R RX (ints .i64 t) ((p : Nat) : Int) := by
 have hpL : ∀ i, pkL (t.drop p) i = pkL t (p + i) := fun i => pkL_drop t p i
 have sg : ∀ (k : Int) (nm : List Int) (n : Nat), signP (t.drop p) = (k, nm, n) → n ≠ 0 → ∀ r' h', Cool 1 r' h' (.agg ([.int .i64 k, .str (bytesOf nm), .int .i64 0, .str (ByteArray.mk #[]), .bool false, .sl 1 ([] : List (List FV)), .sl 6 ([] : List (List FV)), .int .i64 0, .int .i64 ((p : Nat) : Int)].map .fz)) (scM t (p + n)) → R r' h' := by
  intro k nm n hsg hn r' h' hc
  have : nextV t p = some (⟨k, nm, lf 0 [] false [] 0, p⟩, p + n) := by
   unfold nextV; rw [hsg]; simp only; rw [if_pos hn]
  refine hR _ _ this r' h' ?_
  unfold Tok.row
  rw [lf_row]
  exact hc
 have kinds_ : ∀ (c : Int), pkL (t.drop p) 0 = c → pkL (t.drop p) 0 = c := fun _ h => h
 unfold token_scanner_nextO_H
 have w0 := sHere_ok t hs (by omega) p (by omega) [35, 44, 64] (by intro x hx; simp at hx; omega) (by simp)
 rw [show bytesOf [35, 44, 64] = ByteArray.mk #[35, 44, 64] from by decide +kernel, hereB_3 35 44 64 _ (by omega) (by omega) (by omega)] at w0
 refine token_scanner_nextO_l0 ?_
 unfold token_scanner_nextO_R0
 refine ⟨fun _ => ⟨⟨by omega, by omega⟩, ByteArray.mk #[35, 44, 64], 6, ByteArray.mk #[117, 110, 115, 121, 110, 116, 97, 120, 45, 115, 112, 108, 105, 99, 105, 110, 103], rfl, _, _, _, w0, fun h => ?_, fun h => ?_⟩, fun h => absurd h (by decide)⟩
 ·have h := of_decide_eq_true h
  refine sg 6 [117, 110, 115, 121, 110, 116, 97, 120, 45, 115, 112, 108, 105, 99, 105, 110, 103] 3 ?_ (by decide) _ _ ?_
  ·unfold signP
   first | (simp only [h]; rfl) | (simp [h]; done) | (simp [h]; omega)
  ·rw [show bytesOf [117, 110, 115, 121, 110, 116, 97, 120, 45, 115, 112, 108, 105, 99, 105, 110, 103] = ByteArray.mk #[117, 110, 115, 121, 110, 116, 97, 120, 45, 115, 112, 108, 105, 99, 105, 110, 103] from by decide +kernel, w64 (by have : ((ByteArray.size (ByteArray.mk #[35, 44, 64]) : Nat) : Int) = 3 := rfl; omega) (by have : ((ByteArray.size (ByteArray.mk #[35, 44, 64]) : Nat) : Int) = 3 := rfl; omega)]
   exact ⟨rfl, Wk.refl _, rfl⟩
 have g0 := of_decide_eq_false h
 clear h w0
 rw [w64 (by omega) (by omega)]
 have w1 := sHere_ok t hs (by omega) p (by omega) [35, 40] (by intro x hx; simp at hx; omega) (by simp)
 rw [show bytesOf [35, 40] = ByteArray.mk #[35, 40] from by decide +kernel, hereB_2 35 40 _ (by omega) (by omega)] at w1
 refine token_scanner_nextO_l0 ?_
 unfold token_scanner_nextO_R0
 refine ⟨fun _ => ⟨⟨by omega, by omega⟩, ByteArray.mk #[35, 40], 3, ByteArray.mk #[], rfl, _, _, _, w1, fun h => ?_, fun h => ?_⟩, fun h => absurd h (by decide)⟩
 ·have h := of_decide_eq_true h
  refine sg 3 [] 2 ?_ (by decide) _ _ ?_
  ·unfold signP
   first | (simp only [h]; rfl) | (simp [h]; done) | (simp [h]; omega)
  ·rw [show bytesOf [] = ByteArray.mk #[] from by decide +kernel, w64 (by have : ((ByteArray.size (ByteArray.mk #[35, 40]) : Nat) : Int) = 2 := rfl; omega) (by have : ((ByteArray.size (ByteArray.mk #[35, 40]) : Nat) : Int) = 2 := rfl; omega)]
   exact ⟨rfl, Wk.refl _, rfl⟩
 have g1 := of_decide_eq_false h
 clear h w1
 rw [w64 (by omega) (by omega)]
 have w2 := sHere_ok t hs (by omega) p (by omega) [35, 59] (by intro x hx; simp at hx; omega) (by simp)
 rw [show bytesOf [35, 59] = ByteArray.mk #[35, 59] from by decide +kernel, hereB_2 35 59 _ (by omega) (by omega)] at w2
 refine token_scanner_nextO_l0 ?_
 unfold token_scanner_nextO_R0
 refine ⟨fun _ => ⟨⟨by omega, by omega⟩, ByteArray.mk #[35, 59], 5, ByteArray.mk #[], rfl, _, _, _, w2, fun h => ?_, fun h => ?_⟩, fun h => absurd h (by decide)⟩
 ·have h := of_decide_eq_true h
  refine sg 5 [] 2 ?_ (by decide) _ _ ?_
  ·unfold signP
   first | (simp only [h]; rfl) | (simp [h]; done) | (simp [h]; omega)
  ·rw [show bytesOf [] = ByteArray.mk #[] from by decide +kernel, w64 (by have : ((ByteArray.size (ByteArray.mk #[35, 59]) : Nat) : Int) = 2 := rfl; omega) (by have : ((ByteArray.size (ByteArray.mk #[35, 59]) : Nat) : Int) = 2 := rfl; omega)]
   exact ⟨rfl, Wk.refl _, rfl⟩
 have g2 := of_decide_eq_false h
 clear h w2
 rw [w64 (by omega) (by omega)]
 have w3 := sHere_ok t hs (by omega) p (by omega) [35, 39] (by intro x hx; simp at hx; omega) (by simp)
 rw [show bytesOf [35, 39] = ByteArray.mk #[35, 39] from by decide +kernel, hereB_2 35 39 _ (by omega) (by omega)] at w3
 refine token_scanner_nextO_l0 ?_
 unfold token_scanner_nextO_R0
 refine ⟨fun _ => ⟨⟨by omega, by omega⟩, ByteArray.mk #[35, 39], 6, ByteArray.mk #[115, 121, 110, 116, 97, 120], rfl, _, _, _, w3, fun h => ?_, fun h => ?_⟩, fun h => absurd h (by decide)⟩
 ·have h := of_decide_eq_true h
  refine sg 6 [115, 121, 110, 116, 97, 120] 2 ?_ (by decide) _ _ ?_
  ·unfold signP
   first | (simp only [h]; rfl) | (simp [h]; done) | (simp [h]; omega)
  ·rw [show bytesOf [115, 121, 110, 116, 97, 120] = ByteArray.mk #[115, 121, 110, 116, 97, 120] from by decide +kernel, w64 (by have : ((ByteArray.size (ByteArray.mk #[35, 39]) : Nat) : Int) = 2 := rfl; omega) (by have : ((ByteArray.size (ByteArray.mk #[35, 39]) : Nat) : Int) = 2 := rfl; omega)]
   exact ⟨rfl, Wk.refl _, rfl⟩
 have g3 := of_decide_eq_false h
 clear h w3
 rw [w64 (by omega) (by omega)]
 have w4 := sHere_ok t hs (by omega) p (by omega) [35, 96] (by intro x hx; simp at hx; omega) (by simp)
 rw [show bytesOf [35, 96] = ByteArray.mk #[35, 96] from by decide +kernel, hereB_2 35 96 _ (by omega) (by omega)] at w4
 refine token_scanner_nextO_l0 ?_
 unfold token_scanner_nextO_R0
 refine ⟨fun _ => ⟨⟨by omega, by omega⟩, ByteArray.mk #[35, 96], 6, ByteArray.mk #[113, 117, 97, 115, 105, 115, 121, 110, 116, 97, 120], rfl, _, _, _, w4, fun h => ?_, fun h => ?_⟩, fun h => absurd h (by decide)⟩
 ·have h := of_decide_eq_true h
  refine sg 6 [113, 117, 97, 115, 105, 115, 121, 110, 116, 97, 120] 2 ?_ (by decide) _ _ ?_
  ·unfold signP
   first | (simp only [h]; rfl) | (simp [h]; done) | (simp [h]; omega)
  ·rw [show bytesOf [113, 117, 97, 115, 105, 115, 121, 110, 116, 97, 120] = ByteArray.mk #[113, 117, 97, 115, 105, 115, 121, 110, 116, 97, 120] from by decide +kernel, w64 (by have : ((ByteArray.size (ByteArray.mk #[35, 96]) : Nat) : Int) = 2 := rfl; omega) (by have : ((ByteArray.size (ByteArray.mk #[35, 96]) : Nat) : Int) = 2 := rfl; omega)]
   exact ⟨rfl, Wk.refl _, rfl⟩
 have g4 := of_decide_eq_false h
 clear h w4
 rw [w64 (by omega) (by omega)]
 have w5 := sHere_ok t hs (by omega) p (by omega) [35, 44] (by intro x hx; simp at hx; omega) (by simp)
 rw [show bytesOf [35, 44] = ByteArray.mk #[35, 44] from by decide +kernel, hereB_2 35 44 _ (by omega) (by omega)] at w5
 refine token_scanner_nextO_l0 ?_
 unfold token_scanner_nextO_R0
 refine ⟨fun _ => ⟨⟨by omega, by omega⟩, ByteArray.mk #[35, 44], 6, ByteArray.mk #[117, 110, 115, 121, 110, 116, 97, 120], rfl, _, _, _, w5, fun h => ?_, fun h => ?_⟩, fun h => absurd h (by decide)⟩
 ·have h := of_decide_eq_true h
  refine sg 6 [117, 110, 115, 121, 110, 116, 97, 120] 2 ?_ (by decide) _ _ ?_
  ·unfold signP
   first | (simp only [h]; rfl) | (simp [h]; done) | (simp [h]; omega)
  ·rw [show bytesOf [117, 110, 115, 121, 110, 116, 97, 120] = ByteArray.mk #[117, 110, 115, 121, 110, 116, 97, 120] from by decide +kernel, w64 (by have : ((ByteArray.size (ByteArray.mk #[35, 44]) : Nat) : Int) = 2 := rfl; omega) (by have : ((ByteArray.size (ByteArray.mk #[35, 44]) : Nat) : Int) = 2 := rfl; omega)]
   exact ⟨rfl, Wk.refl _, rfl⟩
 have g5 := of_decide_eq_false h
 clear h w5
 rw [w64 (by omega) (by omega)]
 have w6 := sHere_ok t hs (by omega) p (by omega) [44, 64] (by intro x hx; simp at hx; omega) (by simp)
 rw [show bytesOf [44, 64] = ByteArray.mk #[44, 64] from by decide +kernel, hereB_2 44 64 _ (by omega) (by omega)] at w6
 refine token_scanner_nextO_l0 ?_
 unfold token_scanner_nextO_R0
 refine ⟨fun _ => ⟨⟨by omega, by omega⟩, ByteArray.mk #[44, 64], 6, ByteArray.mk #[117, 110, 113, 117, 111, 116, 101, 45, 115, 112, 108, 105, 99, 105, 110, 103], rfl, _, _, _, w6, fun h => ?_, fun h => ?_⟩, fun h => absurd h (by decide)⟩
 ·have h := of_decide_eq_true h
  refine sg 6 [117, 110, 113, 117, 111, 116, 101, 45, 115, 112, 108, 105, 99, 105, 110, 103] 2 ?_ (by decide) _ _ ?_
  ·unfold signP
   first | (simp only [h]; rfl) | (simp [h]; done) | (simp [h]; omega)
  ·rw [show bytesOf [117, 110, 113, 117, 111, 116, 101, 45, 115, 112, 108, 105, 99, 105, 110, 103] = ByteArray.mk #[117, 110, 113, 117, 111, 116, 101, 45, 115, 112, 108, 105, 99, 105, 110, 103] from by decide +kernel, w64 (by have : ((ByteArray.size (ByteArray.mk #[44, 64]) : Nat) : Int) = 2 := rfl; omega) (by have : ((ByteArray.size (ByteArray.mk #[44, 64]) : Nat) : Int) = 2 := rfl; omega)]
   exact ⟨rfl, Wk.refl _, rfl⟩
 have g6 := of_decide_eq_false h
 clear h w6
 rw [w64 (by omega) (by omega)]
 have w7 := sHere_ok t hs (by omega) p (by omega) [40] (by intro x hx; simp at hx; omega) (by simp)
 rw [show bytesOf [40] = ByteArray.mk #[40] from by decide +kernel, hereB_1 40 _ (by omega)] at w7
 refine token_scanner_nextO_l0 ?_
 unfold token_scanner_nextO_R0
 refine ⟨fun _ => ⟨⟨by omega, by omega⟩, ByteArray.mk #[40], 1, ByteArray.mk #[], rfl, _, _, _, w7, fun h => ?_, fun h => ?_⟩, fun h => absurd h (by decide)⟩
 ·have h := of_decide_eq_true h
  refine sg 1 [] 1 ?_ (by decide) _ _ ?_
  ·unfold signP
   first | (simp only [h]; rfl) | (simp [h]; done) | (simp [h]; omega)
  ·rw [show bytesOf [] = ByteArray.mk #[] from by decide +kernel, w64 (by have : ((ByteArray.size (ByteArray.mk #[40]) : Nat) : Int) = 1 := rfl; omega) (by have : ((ByteArray.size (ByteArray.mk #[40]) : Nat) : Int) = 1 := rfl; omega)]
   exact ⟨rfl, Wk.refl _, rfl⟩
 have g7 := of_decide_eq_false h
 clear h w7
 rw [w64 (by omega) (by omega)]
 have w8 := sHere_ok t hs (by omega) p (by omega) [41] (by intro x hx; simp at hx; omega) (by simp)
 rw [show bytesOf [41] = ByteArray.mk #[41] from by decide +kernel, hereB_1 41 _ (by omega)] at w8
 refine token_scanner_nextO_l0 ?_
 unfold token_scanner_nextO_R0
 refine ⟨fun _ => ⟨⟨by omega, by omega⟩, ByteArray.mk #[41], 2, ByteArray.mk #[], rfl, _, _, _, w8, fun h => ?_, fun h => ?_⟩, fun h => absurd h (by decide)⟩
 ·have h := of_decide_eq_true h
  refine sg 2 [] 1 ?_ (by decide) _ _ ?_
  ·unfold signP
   first | (simp only [h]; rfl) | (simp [h]; done) | (simp [h]; omega)
  ·rw [show bytesOf [] = ByteArray.mk #[] from by decide +kernel, w64 (by have : ((ByteArray.size (ByteArray.mk #[41]) : Nat) : Int) = 1 := rfl; omega) (by have : ((ByteArray.size (ByteArray.mk #[41]) : Nat) : Int) = 1 := rfl; omega)]
   exact ⟨rfl, Wk.refl _, rfl⟩
 have g8 := of_decide_eq_false h
 clear h w8
 rw [w64 (by omega) (by omega)]
 have w9 := sHere_ok t hs (by omega) p (by omega) [39] (by intro x hx; simp at hx; omega) (by simp)
 rw [show bytesOf [39] = ByteArray.mk #[39] from by decide +kernel, hereB_1 39 _ (by omega)] at w9
 refine token_scanner_nextO_l0 ?_
 unfold token_scanner_nextO_R0
 refine ⟨fun _ => ⟨⟨by omega, by omega⟩, ByteArray.mk #[39], 6, ByteArray.mk #[113, 117, 111, 116, 101], rfl, _, _, _, w9, fun h => ?_, fun h => ?_⟩, fun h => absurd h (by decide)⟩
 ·have h := of_decide_eq_true h
  refine sg 6 [113, 117, 111, 116, 101] 1 ?_ (by decide) _ _ ?_
  ·unfold signP
   first | (simp only [h]; rfl) | (simp [h]; done) | (simp [h]; omega)
  ·rw [show bytesOf [113, 117, 111, 116, 101] = ByteArray.mk #[113, 117, 111, 116, 101] from by decide +kernel, w64 (by have : ((ByteArray.size (ByteArray.mk #[39]) : Nat) : Int) = 1 := rfl; omega) (by have : ((ByteArray.size (ByteArray.mk #[39]) : Nat) : Int) = 1 := rfl; omega)]
   exact ⟨rfl, Wk.refl _, rfl⟩
 have g9 := of_decide_eq_false h
 clear h w9
 rw [w64 (by omega) (by omega)]
 have w10 := sHere_ok t hs (by omega) p (by omega) [96] (by intro x hx; simp at hx; omega) (by simp)
 rw [show bytesOf [96] = ByteArray.mk #[96] from by decide +kernel, hereB_1 96 _ (by omega)] at w10
 refine token_scanner_nextO_l0 ?_
 unfold token_scanner_nextO_R0
 refine ⟨fun _ => ⟨⟨by omega, by omega⟩, ByteArray.mk #[96], 6, ByteArray.mk #[113, 117, 97, 115, 105, 113, 117, 111, 116, 101], rfl, _, _, _, w10, fun h => ?_, fun h => ?_⟩, fun h => absurd h (by decide)⟩
 ·have h := of_decide_eq_true h
  refine sg 6 [113, 117, 97, 115, 105, 113, 117, 111, 116, 101] 1 ?_ (by decide) _ _ ?_
  ·unfold signP
   first | (simp only [h]; rfl) | (simp [h]; done) | (simp [h]; omega)
  ·rw [show bytesOf [113, 117, 97, 115, 105, 113, 117, 111, 116, 101] = ByteArray.mk #[113, 117, 97, 115, 105, 113, 117, 111, 116, 101] from by decide +kernel, w64 (by have : ((ByteArray.size (ByteArray.mk #[96]) : Nat) : Int) = 1 := rfl; omega) (by have : ((ByteArray.size (ByteArray.mk #[96]) : Nat) : Int) = 1 := rfl; omega)]
   exact ⟨rfl, Wk.refl _, rfl⟩
 have g10 := of_decide_eq_false h
 clear h w10
 rw [w64 (by omega) (by omega)]
 have w11 := sHere_ok t hs (by omega) p (by omega) [44] (by intro x hx; simp at hx; omega) (by simp)
 rw [show bytesOf [44] = ByteArray.mk #[44] from by decide +kernel, hereB_1 44 _ (by omega)] at w11
 refine token_scanner_nextO_l0 ?_
 unfold token_scanner_nextO_R0
 refine ⟨fun _ => ⟨⟨by omega, by omega⟩, ByteArray.mk #[44], 6, ByteArray.mk #[117, 110, 113, 117, 111, 116, 101], rfl, _, _, _, w11, fun h => ?_, fun h => ?_⟩, fun h => absurd h (by decide)⟩
 ·have h := of_decide_eq_true h
  refine sg 6 [117, 110, 113, 117, 111, 116, 101] 1 ?_ (by decide) _ _ ?_
  ·unfold signP
   first | (simp only [h]; rfl) | (simp [h]; done) | (simp [h]; omega)
  ·rw [show bytesOf [117, 110, 113, 117, 111, 116, 101] = ByteArray.mk #[117, 110, 113, 117, 111, 116, 101] from by decide +kernel, w64 (by have : ((ByteArray.size (ByteArray.mk #[44]) : Nat) : Int) = 1 := rfl; omega) (by have : ((ByteArray.size (ByteArray.mk #[44]) : Nat) : Int) = 1 := rfl; omega)]
   exact ⟨rfl, Wk.refl _, rfl⟩
 have g11 := of_decide_eq_false h
 clear h w11
 rw [w64 (by omega) (by omega)]
 refine token_scanner_nextO_l0 ?_
 unfold token_scanner_nextO_R0
 have hpk := sPeek_ok t p 0 (by omega) (by omega)
 rw [← hpL 0] at hpk
 obtain ⟨dk, ds, dn, dl, db, dq, hD, hV⟩ := sDatum_ok t hs hlen p hp
 refine ⟨fun h => absurd h (by decide), fun _ => ⟨_, _, _, hpk, ?_⟩⟩
 simp only [beq_t, beq_f, not_t, not_f, decide_eq_true_eq, decide_eq_false_iff_not]
 have leaf : signP (t.drop p) = (0, [], 0) → ∀ X Y : Prop, (RX (.ifv 106 true [.int .i64 ((p : Nat) : Int)]) (shH (scM t p)) → X) → (R (.agg ([.int .i64 7, .str (ByteArray.mk #[]), .int .i64 dk, .str (bytesOf ds), .bool dn, .sl 1 (ints .u32 dl), .sl 6 ([] : List (List FV)), .int .i64 ((p : Nat) : Int), .int .i64 ((p : Nat) : Int)].map .fz)) (scM t dq) → Y) → ((db = false → X) ∧ (db = true → Y)) := by
  intro hsg X Y hx hy
  refine ⟨fun hb => hx (hX ?_), fun hb => hy (hR ⟨7, [], lf dk ds dn dl p, p⟩ dq ?_ _ _ ?_)⟩
  ·unfold nextV; rw [hsg]; simp only; rw [if_neg (by simp), hV, hb, if_neg (by simp)]
  ·unfold nextV; rw [hsg]; simp only; rw [if_neg (by simp), hV, hb, if_pos rfl]
  ·unfold Tok.row
   rw [lf_row]
   exact ⟨rfl, Wk.refl _, rfl⟩
 refine ⟨fun c46 => ⟨_, _, _, sLeft_ok t p 2 (by omega) (by omega), ?_⟩, fun c46 => ?_⟩
 ·have e1 : IntKind.wrap .i64 ((p : Int) + 1) = ((p + 1 : Nat) : Int) := w64 (by omega) (by omega)
  have dot : (pkL (t.drop p) 1 < 0 ∨ endsB (pkL (t.drop p) 1) = true) → R (.agg [.fz (.int .i64 4), .fz (.str (ByteArray.mk #[])), .fz (.int .i64 0), .fz (.str (ByteArray.mk #[])), .fz (.bool false), .ofl 1 1, .ofl 6 2, .fz (.int .i64 0), .fz (.int .i64 ((p : Nat) : Int))]) [.g 110 [.fz (.sl 1 (ints .i64 t)), .fz (.int .i64 (IntKind.wrap .i64 ((p : Int) + 1)))], .f 0 1 ([] : List (List FV)), .f 0 6 ([] : List (List FV))] := fun h => by
   rw [e1]
   exact sg 4 [] 1 (by unfold signP; simp [c46, h]) (by decide) _ _ ⟨rfl, Wk.refl _, rfl⟩
  simp only [not_t, not_f, decide_eq_true_eq, decide_eq_false_iff_not]
  refine ⟨fun h2 => dot (.inl ?_), fun h2 => ⟨_, _, _, sPeek_ok t p 1 (by omega) (by omega), _, uEnds_ok _, fun he => dot (.inr ?_), fun he => ⟨_, _, _, _, _, _, _, _, _, hD, ?_⟩⟩⟩
  ·rw [hpL 1, pkL_ge (by omega)]; omega
  ·rw [hpL 1]; exact he
  ·have hsg : signP (t.drop p) = (0, [], 0) := by
    have hlt : p + 1 < t.length := by omega
    have h1 : ¬ (pkL (t.drop p) 1 < 0 ∨ endsB (pkL (t.drop p) 1) = true) := by
     rw [hpL 1]
     rintro (h | h)
     ·rw [pkL_lt hlt] at h
      have := (scal_in (hs.rd hlt)).1
      omega
     ·rw [he] at h; cases h
    unfold signP
    simp only [c46]
    rw [if_neg (by omega), if_neg (by omega), if_neg (by omega), if_neg (by omega), if_neg (by omega), if_neg (by omega), if_neg (by omega), if_neg (by omega), if_neg (by omega), if_neg (by omega), if_neg (by omega), if_neg (by omega), if_neg (fun h => h1 h.2)]
   exact leaf hsg _ _ (fun h => h) (fun h => h)
 ·refine ⟨_, _, _, _, _, _, _, _, _, hD, ?_⟩
  have hsg : signP (t.drop p) = (0, [], 0) := by
   unfold signP
   rw [if_neg g0, if_neg g5, if_neg g3, if_neg g4, if_neg g2, if_neg g1, if_neg g6, if_neg g11, if_neg g9, if_neg g10, if_neg g7, if_neg g8, if_neg (fun h => c46 h.1)]
  exact leaf hsg _ _ (fun h => h) (fun h => h)
theorem sNext_ok (t : List Int) (hs : Scals t) (hlen : t.length ≤ 4000000) (p : Nat) (hp : p < t.length) (tok : Tok) (q : Nat) (h : nextV t p = some (tok, q)) :
  Fn Tryz.prog 68 [scP] (scM t p) (.agg (tok.row.map .fz)) (scM t q) := by
 refine token_scanner_nextO_fc _ _ (sNext_H t hs hlen p hp _ _ (fun tok' q' h' r' hh hc => ?_) (fun h' => ?_))
 ·rw [h] at h'; cases h'; exact hc
 ·rw [h] at h'; cases h'
theorem sNext_fx (t : List Int) (hs : Scals t) (hlen : t.length ≤ 4000000) (p : Nat) (hp : p < t.length) (h : nextV t p = none) :
  FnX Tryz.prog 68 [scP] (scM t p) (.ifv 106 true [.int .i64 ((p : Nat) : Int)]) := by
 refine token_scanner_nextO_fx _ _ (sNext_H t hs hlen p hp _ _ (fun tok' q' h' r' hh hc => ?_) (fun h' => ⟨rfl, rfl⟩))
 rw [h] at h'; cases h'
end
section
theorem FnC.args {P : Program} {C : Array Value → World → (Ending → World → Prop) → Prop} {E : Ending → Value → Prop} {xs ys : List TV} {h : List Ob} {r : TV} {h' : List Ob} (hl : xs.length = ys.length)
  (hr : ∀ (i : Nat) (x : TV), xs[i]? = some x → ∃ y, ys[i]? = some y ∧ ∀ (w : World) (B : Nat → Prop) (locs : Nat → Option Loc) (v : Value), RT w B locs y v → RT w B locs x v)
  (F : FnC P C E xs h r h') : FnC P C E ys h r h' := by
 intro ext w locs vals H hsz hrep
 refine F ext w locs vals H (by rw [hsz, hl]) (fun i x hi => ?_)
 obtain ⟨y, hy, himp⟩ := hr i x hi
 obtain ⟨v, hv, hv2⟩ := hrep i y hy
 exact ⟨v, hv, himp _ _ _ _ hv2⟩
theorem FnC.ptr1 {P : Program} {C : Array Value → World → (Ending → World → Prop) → Prop} {E : Ending → Value → Prop} {o e c ty : Nat} (ty' : Nat) {xs : List TV} {h : List Ob} {r : TV} {h' : List Ob}
  (F : FnC P C E (.one (.ptr o e c ty) :: xs) h r h') : FnC P C E (.one (.ptr o e c ty') :: xs) h r h' := by
 refine FnC.args (by simp) (fun i x hi => ?_) F
 cases i with
 | zero => cases hi; exact ⟨_, rfl, fun _ _ _ _ h => h⟩
 | succ i => exact ⟨x, hi, fun _ _ _ _ h => h⟩
theorem FnC.ptr3 {P : Program} {C : Array Value → World → (Ending → World → Prop) → Prop} {E : Ending → Value → Prop} {o e c ty o2 e2 c2 ty2 o3 e3 c3 ty3 : Nat} {xs : List TV} {h : List Ob} {r : TV} {h' : List Ob}
  (F : FnC P C E (.one (.ptr o e c ty) :: .one (.ptr o2 e2 c2 ty2) :: .one (.ptr o3 e3 c3 ty3) :: xs) h r h') : FnC P C E (.one (.ptr o e c 0) :: .one (.ptr o2 e2 c2 0) :: .one (.ptr o3 e3 c3 0) :: xs) h r h' := by
 refine FnC.args (by simp) (fun i x hi => ?_) F
 match i, hi with
 | 0, hi => cases hi; exact ⟨_, rfl, fun _ _ _ _ h => h⟩
 | 1, hi => cases hi; exact ⟨_, rfl, fun _ _ _ _ h => h⟩
 | 2, hi => cases hi; exact ⟨_, rfl, fun _ _ _ _ h => h⟩
 | i + 3, hi => exact ⟨x, hi, fun _ _ _ _ h => h⟩
end
section
def scanL : Nat → List Int → Nat → List Tok → List Tok × Int × Int
 | 0, _, _, _ => ([], 0, 3)
 | f + 1, t, p, acc => if t.length ≤ p + blC false (t.drop p) then (acc, 0, 0) else
  match nextV t (p + blC false (t.drop p)) with
  | some (tok, e) => scanL f t e (acc ++ [tok])
  | none => ([], ((p + blC false (t.drop p) : Nat) : Int), 3)
def badN : List Int → Nat
 | [] => 0
 | c :: r => if scalB c = true then badN r + 1 else 0
def scanV (t : List Int) : List Tok × Int × Int := if badN t < t.length then ([], ((badN t : Nat) : Int), 1) else scanL (t.length + 1) t 0 []
abbrev toks (l : List Tok) : List (List FV) := l.map Tok.row
abbrev scT (x : List Tok × Int × Int) : TV := .tup [(false, [.fz (.sl 9 (toks x.1))]), (false, [.fz (.int .i64 x.2.1)]), (false, [.fz (.int .i64 x.2.2)])]
theorem toks_snoc (l : List Tok) (x : Tok) : toks l ++ [x.row] = toks (l ++ [x]) := by simp [toks]
theorem badN_scals : ∀ {t : List Int}, ¬ badN t < t.length → Scals t
 | [], _ => by intro c hc; cases hc
 | c :: r, h => by
  unfold badN at h
  split at h
  ·rename_i hc
   rw [List.length_cons] at h
   intro x hx
   rcases List.mem_cons.1 hx with rfl | hx
   ·exact hc
   ·exact badN_scals (by omega) x hx
  ·simp at h
theorem badN_spec : ∀ (t : List Int) (j : Nat), (j < badN t → scalB (rd t j) = true) ∧ (badN t < t.length → scalB (rd t (badN t)) = false)
 | [], j => ⟨fun h => by simp [badN] at h, fun h => by simp [badN] at h⟩
 | c :: r, j => by
  have ih := badN_spec r
  unfold badN
  by_cases hc : scalB c = true
  ·rw [if_pos hc]
   refine ⟨fun h => ?_, fun h => ?_⟩
   ·cases j with
    | zero => exact hc
    | succ j => exact (ih j).1 (by omega)
   ·rw [List.length_cons] at h
    exact (ih 0).2 (by omega)
  ·rw [if_neg hc]
   refine ⟨fun h => by omega, fun h => ?_⟩
   show scalB c = false
   simpa using hc
theorem badN_le : ∀ t : List Int, badN t ≤ t.length
 | [] => Nat.le_refl _
 | c :: r => by
  have := badN_le r
  unfold badN
  split <;> simp <;> omega
theorem ite_all {α : Type} {P : α → Prop} {c : Prop} [Decidable c] {a b : α} (h1 : c → P a) (h2 : ¬ c → P b) : P (if c then a else b) := by
 by_cases h : c
 ·rw [if_pos h]; exact h1 h
 ·rw [if_neg h]; exact h2 h
theorem signP_pos {r : List Int} (h : (signP r).2.2 ≠ 0) : (signP r).2.2 ≤ r.length ∧ (signP r).2.2 ≤ 3 := by
 have h0 : ∀ c, 0 ≤ c → pkL r 0 = c → 1 ≤ r.length := fun c hc e => pkL_pos (by omega)
 have h1 : ∀ c, 0 ≤ c → pkL r 1 = c → 2 ≤ r.length := fun c hc e => pkL_pos (by omega)
 have h2 : ∀ c, 0 ≤ c → pkL r 2 = c → 3 ≤ r.length := fun c hc e => pkL_pos (by omega)
 revert h
 unfold signP
 refine ite_all (P := fun s : Int × List Int × Nat => s.2.2 ≠ 0 → s.2.2 ≤ r.length ∧ s.2.2 ≤ 3) (fun hc _ => ⟨h2 _ (by omega) hc.2.2, by simp⟩) (fun _ => ?_)
 refine ite_all (P := fun s : Int × List Int × Nat => s.2.2 ≠ 0 → s.2.2 ≤ r.length ∧ s.2.2 ≤ 3) (fun hc _ => ⟨h1 _ (by omega) hc.2, by simp⟩) (fun _ => ?_)
 refine ite_all (P := fun s : Int × List Int × Nat => s.2.2 ≠ 0 → s.2.2 ≤ r.length ∧ s.2.2 ≤ 3) (fun hc _ => ⟨h1 _ (by omega) hc.2, by simp⟩) (fun _ => ?_)
 refine ite_all (P := fun s : Int × List Int × Nat => s.2.2 ≠ 0 → s.2.2 ≤ r.length ∧ s.2.2 ≤ 3) (fun hc _ => ⟨h1 _ (by omega) hc.2, by simp⟩) (fun _ => ?_)
 refine ite_all (P := fun s : Int × List Int × Nat => s.2.2 ≠ 0 → s.2.2 ≤ r.length ∧ s.2.2 ≤ 3) (fun hc _ => ⟨h1 _ (by omega) hc.2, by simp⟩) (fun _ => ?_)
 refine ite_all (P := fun s : Int × List Int × Nat => s.2.2 ≠ 0 → s.2.2 ≤ r.length ∧ s.2.2 ≤ 3) (fun hc _ => ⟨h1 _ (by omega) hc.2, by simp⟩) (fun _ => ?_)
 refine ite_all (P := fun s : Int × List Int × Nat => s.2.2 ≠ 0 → s.2.2 ≤ r.length ∧ s.2.2 ≤ 3) (fun hc _ => ⟨h1 _ (by omega) hc.2, by simp⟩) (fun _ => ?_)
 refine ite_all (P := fun s : Int × List Int × Nat => s.2.2 ≠ 0 → s.2.2 ≤ r.length ∧ s.2.2 ≤ 3) (fun hc _ => ⟨h0 _ (by omega) hc, by simp⟩) (fun _ => ?_)
 refine ite_all (P := fun s : Int × List Int × Nat => s.2.2 ≠ 0 → s.2.2 ≤ r.length ∧ s.2.2 ≤ 3) (fun hc _ => ⟨h0 _ (by omega) hc, by simp⟩) (fun _ => ?_)
 refine ite_all (P := fun s : Int × List Int × Nat => s.2.2 ≠ 0 → s.2.2 ≤ r.length ∧ s.2.2 ≤ 3) (fun hc _ => ⟨h0 _ (by omega) hc, by simp⟩) (fun _ => ?_)
 refine ite_all (P := fun s : Int × List Int × Nat => s.2.2 ≠ 0 → s.2.2 ≤ r.length ∧ s.2.2 ≤ 3) (fun hc _ => ⟨h0 _ (by omega) hc, by simp⟩) (fun _ => ?_)
 refine ite_all (P := fun s : Int × List Int × Nat => s.2.2 ≠ 0 → s.2.2 ≤ r.length ∧ s.2.2 ≤ 3) (fun hc _ => ⟨h0 _ (by omega) hc, by simp⟩) (fun _ => ?_)
 refine ite_all (P := fun s : Int × List Int × Nat => s.2.2 ≠ 0 → s.2.2 ≤ r.length ∧ s.2.2 ≤ 3) (fun hc _ => ⟨h0 _ (by omega) hc.1, by simp⟩) (fun _ => ?_)
 exact fun h => absurd rfl h
theorem strF_le : ∀ (f : Nat) (r acc : List Int) (k : Nat) (a : List Int) (e : Nat), strF f r acc k = some (a, e) → k < e ∧ e ≤ k + r.length
 | 0, r, acc, k, a, e, h => by unfold strF at h; cases h
 | f + 1, [], acc, k, a, e, h => by unfold strF at h; cases h
 | f + 1, c :: r, acc, k, a, e, h => by
  unfold strF at h
  split at h
  ·cases h; simp
  ·split at h
   ·have := strF_le f r _ _ a e h
    simp only [List.length_cons]; omega
   ·split at h
    ·cases h
    ·rename_i hc
     have := strF_le f _ _ _ a e h
     have g := (escV_pos (r := r) (by omega)).2.2
     simp only [List.length_cons, List.length_drop] at this ⊢
     omega
theorem chN_le (r : List Int) (h : r ≠ []) : chN_ r ≤ r.length := by
 have := untilN_le (r.drop 1)
 have hl : r.length ≠ 0 := fun e => h (List.length_eq_zero_iff.1 e)
 unfold chN_
 rw [List.length_drop] at this
 omega
theorem atomK_nil : atomK [] = 0 := by decide +kernel
theorem datV_le {f : Nat} {r : List Int} {p : Nat} {k : Int} {s : List Int} {n : Bool} {l : List Int} {e : Nat} (h : datV f r p = some (k, s, n, l, e)) : p < e ∧ e ≤ p + r.length := by
 unfold datV at h
 split at h
 ·rename_i hc
  have hr : 0 < r.length := pkL_pos (i := 0) (by omega)
  split at h
  ·rename_i a e' hst
   split at h
   ·cases h
    have := strF_le _ _ _ _ _ _ hst
    rw [List.length_drop] at this
    omega
   ·cases h
  ·cases h
 ·split at h
  ·rename_i hc
   have hr : 1 < r.length := pkL_pos (i := 1) (by omega)
   split at h
   ·rename_i hv
    cases h
    have hne : r.drop 2 ≠ [] := fun e => by rw [e] at hv; exact absurd hv (by decide)
    have := chN_le _ hne
    unfold chQ
    rw [if_neg hne]
    rw [List.length_drop] at this
    have h1 : 1 ≤ chN_ (r.drop 2) := by unfold chN_; omega
    omega
   ·cases h
  ·split at h
   ·rename_i hk
    cases h
    have := untilN_le r
    have h0 : untilN r ≠ 0 := fun e => by
     rw [e, List.take_zero, show enc [] = [] from rfl, atomK_nil] at hk
     exact hk rfl
    omega
   ·cases h
theorem nextV_le {t : List Int} {p : Nat} {tok : Tok} {e : Nat} (hp : p ≤ t.length) (h : nextV t p = some (tok, e)) : p < e ∧ e ≤ t.length := by
 unfold nextV at h
 split at h
 ·rename_i hs
  cases h
  have := signP_pos hs
  rw [List.length_drop] at this
  omega
 ·split at h
  ·rename_i k s n l e' hd
   cases h
   have := datV_le hd
   rw [List.length_drop] at this
   omega
  ·cases h
theorem scanDx_ok (q : Nat) : FnDf Tryz.prog 65 [.one (.ptr 0 0 0 0), .one (.ptr 1 0 0 0), .one (.ptr 2 0 0 0)] [.g 62 [.und], .g 3 [.und], .g 24 [.und]] (some (.ifv 106 true [.int .i64 ((q : Nat) : Int)]))
  [.g 62 [.nsl 9], .g 3 [.fz (.int .i64 ((q : Nat) : Int))], .g 24 [.fz (.int .i64 3)]] := by
 have := scanDx_fn ((q : Nat) : Int) (h := [.g 62 [.nsl 9], .g 3 [.fz (.int .i64 ((q : Nat) : Int))], .g 24 [.fz (.int .i64 3)]]) ⟨fun _ => Wk.refl _, fun h => absurd h (by decide)⟩
 exact FnC.ptr3 this
theorem scanD0_ok (l : List (List FV)) : FnDf Tryz.prog 65 [.one (.ptr 0 0 0 0), .one (.ptr 1 0 0 0), .one (.ptr 2 0 0 0)] [.g 62 [.ofl 9 3], .g 3 [.fz (.int .i64 0)], .g 24 [.fz (.int .i64 0)], .f 0 9 l] none
  [.g 62 [.ofl 9 3], .g 3 [.fz (.int .i64 0)], .g 24 [.fz (.int .i64 0)], .f 0 9 l] := by
 have := scanD0_fn 0 0 l (h := [.g 62 [.ofl 9 3], .g 3 [.fz (.int .i64 0)], .g 24 [.fz (.int .i64 0)], .f 0 9 l]) ⟨fun h => absurd h (by decide), fun _ => Wk.refl _⟩
 exact FnC.ptr3 this
theorem sScan_loop (t : List Int) (hs : Scals t) (hlen : t.length ≤ 4000000) (R : TV → List Ob → Prop) (RX : FV → List Ob → Prop) : ∀ (f p : Nat) (acc : List Tok), t.length - p < f → p ≤ t.length → acc.length ≤ p → R (scT (scanL f t p acc)) [] →
  token_Scan_L0 R RX (ints .i64 t) ((p + blC false (t.drop p) : Nat) : Int) (toks acc) := by
 intro f
 induction f with
 | zero => intro p acc hf; omega
 | succ f ih =>
  intro p acc hf hp hacc hR
  have hb := blC_le false (t.drop p)
  rw [List.length_drop] at hb
  unfold scanL at hR
  generalize hq : p + blC false (t.drop p) = q at *
  refine token_Scan_l0 ?_
  unfold token_Scan_R0
  refine ⟨_, _, _, FnC.ptr1 0 (sLeft_ok t q 1 (by omega) (by omega)), fun h => ?_, fun h => ?_⟩
  ·have hlt : q < t.length := of_decide_eq_true h
   rw [if_neg (by omega)] at hR
   cases hn : nextV t q with
   | none =>
    rw [hn] at hR
    exact .inl ⟨_, FnC.ptr1 0 (sNext_fx t hs hlen q hlt hn), _, _, scanDx_ok q, hR⟩
   | some te =>
    obtain ⟨tok, e⟩ := te
    rw [hn] at hR
    simp only at hR
    have hle := nextV_le (by omega) hn
    have hN := sNext_ok t hs hlen q hlt tok e hn
    obtain ⟨tk, tn, td, ta⟩ := tok
    obtain ⟨dk, dt, dn, dl, dds, da⟩ := td
    refine .inr ⟨_, _, _, _, _, _, _, _, _, _, _, FnC.ptr1 0 hN, by simp only [List.length_map, List.length_cons, List.length_nil]; omega, _, _, FnC.ptr1 0 (sBlanks_ok t (by omega) e (by omega)), ?_⟩
    have := ih e (acc ++ [⟨tk, tn, .mk dk dt dn dl dds da, ta⟩]) (by omega) (by omega) (by simp; omega) hR
    rw [← toks_snoc] at this
    exact this
  ·have hge : t.length ≤ q := by have := of_decide_eq_false h; omega
   rw [if_pos hge] at hR
   exact ⟨_, _, _, scanD0_ok _, hR⟩
theorem ixScal_loop (t : List Int) (hlen : t.length ≤ 100000000) (R : TV → List Ob → Prop) (hR : R (fzI .i64 (if badN t < t.length then ((badN t : Nat) : Int) else -1)) []) : ∀ (m j : Nat), t.length - j = m → j ≤ badN t → ixScal_L0 R (ints .i64 t) j := by
 have hle := badN_le t
 intro m
 induction m with
 | zero =>
  intro j hj h
  refine ixScal_l0 ?_
  unfold ixScal_R0
  rw [ints_len]
  refine ⟨fun h => absurd (of_decide_eq_true h) (by omega), fun _ => ?_⟩
  rw [if_neg (by omega)] at hR
  exact hR
 | succ m ih =>
  intro j hj h
  have hlt : j < t.length := by omega
  refine ixScal_l0 ?_
  unfold ixScal_R0
  rw [ints_len]
  refine ⟨fun _ => ⟨by omega, rd t j, by simp [ints, some_rd hlt], _, scanFn1_ok _, fun hb => ?_, fun hb => ?_⟩, fun h => absurd (of_decide_eq_false h) (by omega)⟩
  ·have : ¬ j < badN t := fun h2 => by
    have := (badN_spec t j).1 h2
    rw [this] at hb; cases hb
   have e : badN t = j := by omega
   rw [e, if_pos hlt] at hR
   exact hR
  ·have hb' : scalB (rd t j) = true := by simpa using hb
   have : badN t ≠ j := fun e => by
    have := (badN_spec t j).2 (by omega)
    rw [e, hb'] at this; cases this
   rw [w64 (by omega) (by omega)]
   exact ih (j + 1) (by omega) (by omega)
theorem tScan_ok (t : List Int) (hlen : t.length ≤ 4000000) : Fn Tryz.prog 38 [fzS .i64 t] [] (scT (scanV t)) [] := by
 refine token_Scan_fn _ ?_
 obtain ⟨R, hR, hRe⟩ := exW (scT (scanV t)) []; rw [hRe]; clear hRe
 unfold scanV at hR
 unfold token_Scan_H
 refine ⟨_, ixScal_fn _ (ixScal_loop t (by omega) _ ⟨rfl, rfl⟩ _ 0 rfl (Nat.zero_le _)), ?_⟩
 by_cases hb : badN t < t.length
 ·rw [if_pos hb] at hR ⊢
  exact ⟨fun _ => hR _ (Wk.refl _), fun h => absurd (of_decide_eq_false h) (by omega)⟩
 ·rw [if_neg hb] at hR ⊢
  refine ⟨fun h => absurd (of_decide_eq_true h) (by omega), fun _ => ?_⟩
  exact ⟨_, _, FnC.ptr1 0 (sBlanks_ok t (by omega) 0 (by omega)), sScan_loop t (badN_scals hb) hlen R _ (t.length + 1) 0 [] (by omega) (by omega) (by simp) (hR _ (Wk.refl _))⟩
end
section
theorem drow_at {xs : List Dt} {i : Nat} {x : Dt} (h : xs[i]? = some x) : (Dt.rows xs)[i]? = some x.row := by rw [rows_get, h]; rfl
end
section
open Go Go.RowKit
abbrev fzD' (k : Int) (t : ByteArray) (n : Bool) (l : List Int) (ds : List Dt) (a : Int) : TV := .agg [.fz (.int .i64 k), .fz (.str t), .fz (.bool n), .fz (.sl 1 (ints .u32 l)), .fz (.sl 6 (Dt.rows ds)), .fz (.int .i64 a)]
def plB (t : ByteArray) (n : Bool) (l : List Int) (dn : Nat) (text number list : Bool) : Bool := (text || decide (bs t = [])) && ((number || (!n && decide (l.length = 0))) && (list || decide (dn = 0)))
theorem empty_eq (t : ByteArray) : ((ByteArray.toList t) == (ByteArray.toList (ByteArray.mk #[]))) = decide (bs t = []) := by
 have := eq_bytes (m := []) (bs_bytes t) Bytes.nil
 rw [of_bs] at this
 exact this
theorem len_beq (n : Nat) : (((n : Nat) : Int) == 0) = decide (n = 0) := by
 rw [Bool.eq_iff_iff]; simp
theorem rdPlain_ok (k : Int) (t : ByteArray) (n : Bool) (l : List Int) (ds : List Dt) (a : Int) (text number list : Bool) : Fn Tryz.prog 82 [fzD' k t n l ds a, fzB text, fzB number, fzB list] [] (fzB (plB t n l ds.length text number list)) [] := by
 refine read_plain_fn _ _ _ _ _ _ _ _ _ ?_
 obtain ⟨R, hR, hRe⟩ : ∃ R : TV → List Ob → Prop, R (fzB (plB t n l ds.length text number list)) [] ∧ (fun r' h' => r' = (fzB (plB t n l ds.length text number list)) ∧ h' = []) = R := ⟨_, ⟨rfl, rfl⟩, rfl⟩
 rw [hRe]
 clear hRe
 unfold read_plain_H
 rw [ints_len, rows_len, empty_eq, len_beq, len_beq]
 unfold plB at hR
 generalize decide (bs t = []) = x at *
 generalize decide (l.length = 0) = y at *
 generalize decide (ds.length = 0) = z at *
 cases n <;> cases text <;> cases number <;> cases list <;> cases x <;> cases y <;> simp_all
theorem rBare_ok (k : Int) (t : ByteArray) (n : Bool) (l : List Int) (ds : List Dt) (a : Int) (text number list : Bool) : Fn Tryz.prog 73 [fzD' k t n l ds a, fzB text, fzB number, fzB list] [] (fzB (plB t n l ds.length text number list)) [] := by
 refine ref02_bare_fn _ _ _ _ _ _ _ _ _ ?_
 obtain ⟨R, hR, hRe⟩ : ∃ R : TV → List Ob → Prop, R (fzB (plB t n l ds.length text number list)) [] ∧ (fun r' h' => r' = (fzB (plB t n l ds.length text number list)) ∧ h' = []) = R := ⟨_, ⟨rfl, rfl⟩, rfl⟩
 rw [hRe]
 clear hRe
 unfold ref02_bare_H
 rw [ints_len, rows_len, empty_eq, len_beq, len_beq]
 unfold plB at hR
 generalize decide (bs t = []) = x at *
 generalize decide (l.length = 0) = y at *
 generalize decide (ds.length = 0) = z at *
 cases n <;> cases text <;> cases number <;> cases list <;> cases x <;> cases y <;> simp_all
def rcN (T : List Int) : Int := if 65536 < T.length then -1 else if (chars T).2 = -1 then ((chars T).1.length : Int) else -1
theorem rdChars_ok (t : ByteArray) : Fn Tryz.prog 111 [.one (.fz (.str t))] [] (fzI .i64 (rcN (bs t))) [] := by
 refine read_chars_fn _ ?_
 unfold read_chars_H rcN
 rw [map_bs]
 refine ⟨_, _, _, utfDecode_ok (bs t) (bs_bytes t), ?_⟩
 rw [bne_t, bne_f, ints_len]
 unfold decE decL
 by_cases h : 65536 < (bs t).length
 ·simp [h]
 ·by_cases h2 : (chars (bs t)).2 = -1
  ·simp [h, h2]
  ·simp [h, h2]
theorem chs_four : ∀ (f at_ : Nat) (l acc : List Int), Bytes l → l.length - at_ < f → at_ ≤ l.length → (chs f l at_ acc).2 = -1 → l.length - at_ + 4 * acc.length ≤ 4 * (chs f l at_ acc).1.length
 | 0, at_, l, acc, hb, hf, ha, h => by omega
 | f + 1, at_, l, acc, hb, hf, ha, h => by
  unfold chs at h ⊢
  split
  ·simp only; omega
  ·rename_i h1
   rw [if_neg h1] at h
   have hne : l.drop at_ ≠ [] := fun e => by have := congrArg List.length e; simp at this; omega
   have hbd := ch1_bounds (drop_bytes hb at_) hne
   rw [List.length_drop] at hbd
   split
   ·rename_i h2
    rw [if_pos h2] at h
    simp only at h
    omega
   ·rename_i h2
    rw [if_neg h2] at h
    have := chs_four f (at_ + (ch1 (l.drop at_)).2.toNat) l (acc ++ [(ch1 (l.drop at_)).1]) hb (by omega) (by omega) h
    rw [List.length_append, List.length_singleton] at this
    omega
theorem chars_four {l : List Int} (hb : Bytes l) (h : (chars l).2 = -1) : l.length ≤ 4 * (chars l).1.length := by
 have := chs_four (l.length + 1) 0 l [] hb (by omega) (by omega) h
 unfold chars
 simpa using this
def leafB (k : Int) (t : ByteArray) (n : Bool) (l : List Int) (dn : Nat) : Bool :=
 if k = 4 then decide (atomK (bs t) = 4) && plB t n l dn true false false
 else if k = 5 then decide (0 ≤ rcN (bs t) ∧ rcN (bs t) ≤ 4096) && plB t n l dn true false false
 else if k = 6 then decide (rcN (bs t) = 1) && plB t n l dn true false false
 else if k = 7 then sndB n l && plB t n l dn false true false
 else if k = 11 then plB t n l dn true false false
 else if k = 8 ∨ k = 9 ∨ k = 10 then plB t n l dn false false false
 else false
set_option maxHeartbeats 1000000 in
theorem rdLeaf_ok (k : Int) (t : ByteArray) (n : Bool) (l : List Int) (ds : List Dt) (a : Int) (ht : t.size ≤ 1048576) (hl : l.length * 4 ≤ 140737488355328) : Fn Tryz.prog 81 [fzD' k t n l ds a] [] (fzB (leafB k t n l ds.length)) [] := by
 refine read_leaf_fn _ _ _ _ _ _ ?_
 obtain ⟨R, hR, hRe⟩ : ∃ R : TV → List Ob → Prop, R (fzB (leafB k t n l ds.length)) [] ∧ (fun r' h' => r' = (fzB (leafB k t n l ds.length)) ∧ h' = []) = R := ⟨_, ⟨rfl, rfl⟩, rfl⟩
 rw [hRe]
 clear hRe
 unfold read_leaf_H
 unfold leafB at hR
 have hA := tAtom_ok (bs t) (bs_bytes t) (by rw [← size_bs]; omega)
 rw [of_bs] at hA
 simp only [beq_t, beq_f]
 refine ⟨fun h => ⟨_, _, _, _, _, _, _, hA, fun h2 => ⟨fun h3 => ⟨_, rdPlain_ok k t n l ds a _ _ _, ?_⟩, fun h3 => ?_⟩, fun h2 => ?_⟩, fun k4 => ⟨fun h => ⟨_, rdChars_ok t, ?_⟩, fun k5 => ⟨fun h => ⟨_, rdChars_ok t, ?_⟩, fun k6 => ⟨fun h => ⟨_, sound_ok n l (by omega), ?_⟩, fun k7 => ⟨fun h => ⟨_, rdPlain_ok k t n l ds a _ _ _, ?_⟩, fun k11 => ⟨fun h => ⟨_, rdPlain_ok k t n l ds a _ _ _, ?_⟩, fun k8 => ⟨fun h => ⟨_, rdPlain_ok k t n l ds a _ _ _, ?_⟩, fun k9 => ⟨fun h => ⟨_, rdPlain_ok k t n l ds a _ _ _, ?_⟩, fun k10 => ?_⟩⟩⟩⟩⟩⟩⟩⟩
 ·rw [if_pos h, decide_eq_true h3, Bool.true_and] at hR; exact hR
 ·rw [if_pos h, decide_eq_false h3, Bool.false_and] at hR; exact hR
 ·have : ¬ atomK (bs t) = 4 := fun h4 => by rw [h4] at h2; simp at h2
  rw [if_pos h, decide_eq_false this, Bool.false_and] at hR; exact hR
 ·rw [if_neg k4, if_pos h] at hR
  rw [dec_t, dec_f, dec_t, dec_f]
  refine ⟨fun h2 => ⟨fun h3 => ⟨_, rdPlain_ok k t n l ds a _ _ _, ?_⟩, fun h3 => ?_⟩, fun h2 => ?_⟩
  ·rw [decide_eq_true ⟨h2, h3⟩, Bool.true_and] at hR; exact hR
  ·rw [decide_eq_false (fun hx => h3 hx.2), Bool.false_and] at hR; exact hR
  ·rw [decide_eq_false (fun hx => h2 hx.1), Bool.false_and] at hR; exact hR
 ·rw [if_neg k4, if_neg k5, if_pos h] at hR
  refine ⟨fun h2 => ⟨_, rdPlain_ok k t n l ds a _ _ _, ?_⟩, fun h2 => ?_⟩
  ·rw [decide_eq_true h2, Bool.true_and] at hR; exact hR
  ·rw [decide_eq_false h2, Bool.false_and] at hR; exact hR
 ·rw [if_neg k4, if_neg k5, if_neg k6, if_pos h] at hR
  refine ⟨fun h2 => ⟨_, rdPlain_ok k t n l ds a _ _ _, ?_⟩, fun h2 => ?_⟩
  ·rw [h2, Bool.true_and] at hR; exact hR
  ·rw [h2, Bool.false_and] at hR; exact hR
 ·rw [if_neg k4, if_neg k5, if_neg k6, if_neg k7, if_pos h] at hR; exact hR
 ·rw [if_neg k4, if_neg k5, if_neg k6, if_neg k7, if_neg k11, if_pos (.inl h)] at hR; exact hR
 ·rw [if_neg k4, if_neg k5, if_neg k6, if_neg k7, if_neg k11, if_pos (.inr (.inl h))] at hR; exact hR
 ·rw [if_neg k4, if_neg k5, if_neg k6, if_neg k7, if_neg k11, if_pos (.inr (.inr h))] at hR; exact hR
 ·rw [if_neg k4, if_neg k5, if_neg k6, if_neg k7, if_neg k11, if_neg (by omega)] at hR; exact hR
def Dt.kind : Dt → Int
 | .mk k _ _ _ _ _ => k
def dotB (k : Int) (ds : List Dt) : Bool := if k = 2 then match ds.getLast? with
 | some x => decide (2 ≤ ds.length) && (decide (x.kind ≠ 1) && decide (x.kind ≠ 2))
 | none => false
 else true
mutual
def Dt.meas : Dt → Int → Int → Int
 | .mk k t n l ds a, dp, room =>
  if 64 < dp ∨ room < 1 then -1
  else if k = 1 ∨ k = 3 ∨ k = 2 then (if (plB t n l ds.length false false true && dotB k ds) = true then Dt.measL ds (dp + 1) room 1 else -1)
  else if leafB k t n l ds.length = true then 1 else -1
def Dt.measL : List Dt → Int → Int → Int → Int
 | [], _, _, n => n
 | x :: xs, dp, room, n => if x.meas dp (room - n) < 0 then -1 else Dt.measL xs dp room (n + x.meas dp (room - n))
end
mutual
theorem meas_le : ∀ (x : Dt) (dp room : Int), x.meas dp room = -1 ∨ (1 ≤ x.meas dp room ∧ x.meas dp room ≤ room)
 | .mk k t n l ds a, dp, room => by
  unfold Dt.meas
  split
  ·exact .inl rfl
  ·rename_i h
   split
   ·split
    ·exact measL_le ds (dp + 1) room 1 (by omega) (by omega)
    ·exact .inl rfl
   ·split
    ·right; omega
    ·exact .inl rfl
theorem measL_le : ∀ (xs : List Dt) (dp room n : Int), 1 ≤ n → n ≤ room → Dt.measL xs dp room n = -1 ∨ (1 ≤ Dt.measL xs dp room n ∧ Dt.measL xs dp room n ≤ room)
 | [], dp, room, n, h0, h1 => by unfold Dt.measL; exact .inr ⟨h0, h1⟩
 | x :: xs, dp, room, n, h0, h1 => by
  have hx := meas_le x dp (room - n)
  unfold Dt.measL
  split
  ·exact .inl rfl
  ·exact measL_le xs dp room _ (by omega) (by omega)
end
theorem rows_last {ds : List Dt} {x : Dt} (h : ds.getLast? = some x) : ds.length ≠ 0 ∧ (Dt.rows ds)[ds.length - 1]? = some x.row := by
 have hne : ds ≠ [] := fun e => by rw [e] at h; cases h
 refine ⟨fun e => hne (List.length_eq_zero_iff.1 e), drow_at ?_⟩
 rw [← List.getLast?_eq_getElem?]; exact h
theorem getLast_some {ds : List Dt} (h : 2 ≤ ds.length) : ∃ x, ds.getLast? = some x := by
 cases hx : ds.getLast? with
 | some x => exact ⟨x, rfl⟩
 | none => rw [List.getLast?_eq_none_iff] at hx; subst hx; simp at h
theorem dotB_some {xs : List Dt} {x : Dt} (hx : xs.getLast? = some x) : dotB 2 xs = (decide (2 ≤ xs.length) && (decide (x.kind ≠ 1) && decide (x.kind ≠ 2))) := by
 unfold dotB; rw [if_pos rfl, hx]
theorem dotB_short {xs : List Dt} (h : xs.length < 2) : dotB 2 xs = false := by
 unfold dotB
 rw [if_pos rfl]
 cases xs.getLast? with
 | none => rfl
 | some x => simp only; rw [decide_eq_false (by omega), Bool.false_and]
theorem dotB_ne {k : Int} {xs : List Dt} (h : k ≠ 2) : dotB k xs = true := if_neg h
theorem rdMeasure_loop (k : Int) (t : ByteArray) (n : Bool) (l : List Int) (a : Int) (xs : List Dt) (hl : xs.length * 88 ≤ 140737488355328) (dp room : Int) (hd0 : 0 ≤ dp) (hd1 : dp ≤ 64) (hr : room ≤ 8192)
  (hp : ∀ x ∈ xs, ∀ r : Int, r ≤ 8192 → -8192 ≤ r → Fn Tryz.prog 51 [fzD x, fzI .i64 (dp + 1), fzI .i64 r] [] (fzI .i64 (x.meas (dp + 1) r)) [])
  (R : TV → List Ob → Prop) (hR : R (fzI .i64 (if (plB t n l xs.length false false true && dotB k xs) = true then Dt.measL xs (dp + 1) room 1 else -1)) []) :
  ∀ (d j : Nat) (m : Int), j + d = xs.length → 1 ≤ m → m ≤ room → Dt.measL xs (dp + 1) room 1 = Dt.measL (xs.drop j) (dp + 1) room m → read_measure_L0 R k t n (ints .u32 l) (Dt.rows xs) a dp room m j
 | 0, j, m, hj, h0, h1, h => by
  refine read_measure_l0 ?_
  unfold read_measure_R0
  rw [rows_len, dec_t, dec_f]
  refine ⟨fun h => by omega, fun _ => ⟨_, rdPlain_ok k t n l xs a _ _ _, ?_⟩⟩
  rw [h, List.drop_of_length_le (by omega)] at hR
  unfold Dt.measL at hR
  rw [not_t, not_f]
  refine ⟨fun h2 => ?_, fun h2 => ?_⟩
  ·rw [h2] at hR; exact hR
  ·rw [h2, Bool.true_and] at hR
   rw [beq_t, beq_f]
   refine ⟨fun h3 => ?_, fun h3 => ?_⟩
   ·subst h3
    rw [dec_t, dec_f]
    refine ⟨fun h4 => ?_, fun h4 => ?_⟩
    ·rw [dotB_short (by omega)] at hR; exact hR
    ·obtain ⟨x, hx⟩ := getLast_some (ds := xs) (by omega)
     obtain ⟨g1, g2⟩ := rows_last hx
     have e := dotB_some hx
     rw [decide_eq_true (show 2 ≤ xs.length by omega), Bool.true_and] at e
     have e1 : IntKind.wrap .i64 ((xs.length : Int) - 1) = ((xs.length - 1 : Nat) : Int) := by rw [w64 (by omega) (by omega)]; omega
     rw [e1, Int.toNat_natCast]
     obtain ⟨k', t', n', l', ys, a'⟩ := x
     simp only [Dt.row] at g2
     have ek : (Dt.mk k' t' n' l' ys a').kind = k' := rfl
     rw [ek] at e
     refine ⟨by omega, _, _, _, _, _, _, g2, ?_⟩
     rw [beq_t, beq_f, beq_t, beq_f]
     refine ⟨fun h5 => ?_, fun h5 => ⟨fun h6 => ?_, fun h6 => ?_⟩⟩
     ·rw [decide_eq_false (fun hx => hx h5), Bool.false_and] at e
      rw [e] at hR; exact hR
     ·rw [decide_eq_false (p := k' ≠ 2) (fun hx => hx h6), Bool.and_false] at e
      rw [e] at hR; exact hR
     ·rw [decide_eq_true h5, decide_eq_true h6] at e
      rw [e] at hR; exact hR
   ·rw [dotB_ne h3] at hR; exact hR
 | d + 1, j, m, hj, h0, h1, h => by
  have hF := hp xs[j] (List.getElem_mem _) (room - m) (by omega) (by omega)
  have hr' := drow_at (List.getElem?_eq_getElem (show j < xs.length by omega))
  have hd : xs.drop j = xs[j] :: xs.drop (j + 1) := List.drop_eq_getElem_cons (by omega)
  have hle := meas_le xs[j] (dp + 1) (room - m)
  rw [hd] at h
  simp only [Dt.measL] at h
  generalize xs[j] = y at hF hr' h hle
  obtain ⟨k', t', n', l', ys, a'⟩ := y
  unfold fzD at hF
  simp only [Dt.row, List.map_cons, List.map_nil] at hF hr'
  refine read_measure_l0 ?_
  unfold read_measure_R0
  have e : IntKind.wrap .i64 ((j : Int) + 1) = ((j + 1 : Nat) : Int) := w64 (by omega) (by omega)
  have e2 : IntKind.wrap .i64 (dp + 1) = dp + 1 := w64 (by omega) (by omega)
  have e3 : IntKind.wrap .i64 (room - m) = room - m := w64 (by omega) (by omega)
  rw [rows_len, dec_t, dec_f, e, e2, e3]
  refine ⟨fun _ => ⟨by omega, _, _, _, _, _, _, hr', _, hF, ?_⟩, fun h => by omega⟩
  rw [dec_t, dec_f]
  generalize (Dt.mk k' t' n' l' ys a').meas (dp + 1) (room - m) = q at *
  refine ⟨fun h2 => ?_, fun h2 => ?_⟩
  ·rw [if_pos h2] at h
   rw [h] at hR
   simpa using hR
  ·rw [if_neg h2] at h
   have e4 : IntKind.wrap .i64 (m + q) = m + q := w64 (by omega) (by omega)
   rw [e4]
   exact rdMeasure_loop k t n l a xs hl dp room hd0 hd1 hr hp R hR d (j + 1) (m + q) (by omega) (by omega) (by omega) h
mutual
theorem rdMeasure_ok : ∀ (x : Dt) (dp room : Int), x.ok → 0 ≤ dp → dp ≤ 100 → room ≤ 8192 → -8192 ≤ room → Fn Tryz.prog 51 [fzD x, fzI .i64 dp, fzI .i64 room] [] (fzI .i64 (x.meas dp room)) []
 | .mk k t n l xs a, dp, room, hok, h0, h1, h2, h3 => by
  unfold Dt.ok at hok
  obtain ⟨_, ht, _, hl4, hxl, hxs, _⟩ := hok
  have hxl : xs.length * 88 ≤ 140737488355328 := by omega
  have hall := fun (h64 : ¬ 64 < dp) => rdMeasure_all xs (dp + 1) hxs (by omega) (by omega)
  unfold fzD
  simp only [Dt.row, List.map_cons, List.map_nil]
  refine read_measure_fn _ _ _ _ _ _ _ _ ?_
  obtain ⟨R, hR, hRe⟩ : ∃ R : TV → List Ob → Prop, R (fzI .i64 ((Dt.mk k t n l xs a).meas dp room)) [] ∧ (fun r' h' => r' = (fzI .i64 ((Dt.mk k t n l xs a).meas dp room)) ∧ h' = []) = R := ⟨_, ⟨rfl, rfl⟩, rfl⟩
  rw [hRe]
  clear hRe
  unfold read_measure_H
  unfold Dt.meas at hR
  rw [dec_t, dec_f, dec_t, dec_f]
  refine ⟨fun h => ?_, fun h4 => ⟨fun h => ?_, fun h5 => ?_⟩⟩
  ·rw [if_pos (.inl h)] at hR; exact hR
  ·rw [if_pos (.inr h)] at hR; exact hR
  ·rw [if_neg (by omega)] at hR
   have go : (k = 1 ∨ k = 3 ∨ k = 2) → read_measure_L0 R k t n (ints .u32 l) (Dt.rows xs) a dp room 1 0 := fun hk => by
    rw [if_pos hk] at hR
    exact rdMeasure_loop k t n l a xs hxl dp room h0 (by omega) h2 (fun x hx r hr hr' => hall h4 x hx r hr hr') R hR xs.length 0 1 (by omega) (by omega) (by omega) rfl
   rw [beq_t, beq_f, beq_t, beq_f, beq_t, beq_f]
   refine ⟨fun h => go (.inl h), fun k1 => ⟨fun h => go (.inr (.inl h)), fun k3 => ⟨fun h => go (.inr (.inr h)), fun k2 => ⟨_, rdLeaf_ok k t n l xs a ht hl4, ?_⟩⟩⟩⟩
   rw [if_neg (by omega)] at hR
   rw [not_t, not_f]
   refine ⟨fun h => ?_, fun h => ?_⟩
   ·rw [if_neg (by rw [h]; simp)] at hR; exact hR
   ·rw [if_pos h] at hR; exact hR
theorem rdMeasure_all : ∀ (xs : List Dt) (dp : Int), Dt.oks xs → 0 ≤ dp → dp ≤ 100 → ∀ x ∈ xs, ∀ room : Int, room ≤ 8192 → -8192 ≤ room → Fn Tryz.prog 51 [fzD x, fzI .i64 dp, fzI .i64 room] [] (fzI .i64 (x.meas dp room)) []
 | [], dp, hok, h0, h1 => fun x hx => by cases hx
 | y :: xs, dp, hok, h0, h1 => fun x hx room hr hr' => by
  unfold Dt.oks at hok
  have h2 := rdMeasure_ok y dp room hok.1 h0 h1 hr hr'
  have h3 := rdMeasure_all xs dp hok.2 h0 h1
  rcases List.mem_cons.1 hx with rfl | hx
  ·exact h2
  ·exact h3 x hx room hr hr'
end
def Dt.snd (x : Dt) : Bool := decide (0 < x.meas 1 8192)
theorem readSound_ok (x : Dt) (hx : x.ok) : Fn Tryz.prog 26 [fzD x] [] (fzB x.snd) [] := by
 have h := rdMeasure_ok x 1 8192 hx (by omega) (by omega) (by omega) (by omega)
 unfold Dt.snd
 obtain ⟨k, t, n, l, xs, a⟩ := x
 unfold fzD at h ⊢
 simp only [Dt.row, List.map_cons, List.map_nil] at h ⊢
 refine read_Sound_fn _ _ _ _ _ _ ?_
 unfold read_Sound_H
 exact ⟨_, h, rfl, rfl⟩
end
section
inductive RdR (α : Type) where
 | ok (v : α) (n : Nat) (nd : Int)
 | bad (at_ e : Int)
def Dt.list : Dt → List Dt
 | .mk _ _ _ _ ds _ => ds
def begE (dp d nd : Int) : Int := if dp < d then 5 else if 8192 < nd + 1 then 6 else 0
def tE : ByteArray := ByteArray.mk #[]
def lsD (k : Int) (ds : List Dt) (a : Int) : Dt := .mk k tE false [] ds a
def endD (l : List Dt) (tail : Option Dt) (a : Int) : Dt :=
 match tail with
 | none => lsD 1 l a
 | some x => if x.kind = 1 ∨ x.kind = 2 then lsD x.kind (l ++ x.list) a else lsD 2 (l ++ [x]) a
mutual
def skipR (dp en : Int) (ts : List Tok) (d nd : Int) : RdR Unit :=
 match ts with
 | [] => .ok () 0 nd
 | t :: r =>
  if t.kind = 5 then
   match behR dp en r d nd with
   | .bad a e => .bad a e
   | .ok _ n nd1 => match skipR dp en (r.drop n) d nd1 with
    | .bad a e => .bad a e
    | .ok _ m nd2 => .ok () (1 + n + m) nd2
  else .ok () 0 nd
termination_by (ts.length, 0)
decreasing_by all_goals (simp_wf; omega)
def datR (dp en : Int) (ts : List Tok) (d nd : Int) : RdR Dt :=
 match ts with
 | [] => .bad 0 0
 | t :: r =>
  if t.kind = 2 ∨ t.kind = 4 then .bad t.at_ 3
  else if begE dp d nd ≠ 0 then .bad t.at_ (begE dp d nd)
  else if t.kind = 7 then .ok t.d 1 (nd + 1)
  else if t.kind = 6 then
   if begE dp (d + 1) (nd + 1) ≠ 0 then .bad t.at_ (begE dp (d + 1) (nd + 1))
   else match behR dp en r (d + 1) (nd + 2) with
    | .bad a e => .bad a e
    | .ok x n nd1 => .ok (lsD 1 [lf 4 t.name false [] t.at_, x] t.at_) (1 + n) nd1
  else if t.kind = 3 then
   match insR dp en r (d + 1) true [] none (nd + 1) with
   | .bad a e => .bad a e
   | .ok v n nd1 => .ok (lsD 3 v.1 t.at_) (1 + n) nd1
  else
   match insR dp en r (d + 1) false [] none (nd + 1) with
   | .bad a e => .bad a e
   | .ok v n nd1 => .ok (endD v.1 v.2 t.at_) (1 + n) nd1
termination_by (ts.length, 1)
decreasing_by all_goals (simp_wf; omega)
def behR (dp en : Int) (ts : List Tok) (d nd : Int) : RdR Dt :=
 match skipR dp en ts d nd with
 | .bad a e => .bad a e
 | .ok _ n nd1 =>
  match ts.drop n with
  | [] => .bad en 3
  | t :: _ =>
   if t.kind = 2 ∨ t.kind = 4 then .bad t.at_ 3
   else match datR dp en (ts.drop n) d nd1 with
    | .bad a e => .bad a e
    | .ok x m nd2 => .ok x (n + m) nd2
termination_by (ts.length, 2)
decreasing_by all_goals (simp_wf; omega)
def insR (dp en : Int) (ts : List Tok) (d : Int) (v : Bool) (acc : List Dt) (tail : Option Dt) (nd : Int) : RdR (List Dt × Option Dt) :=
 match skipR dp en ts d nd with
 | .bad a e => .bad a e
 | .ok _ n nd1 =>
  match h : ts.drop n with
  | [] => .bad en 3
  | t :: r =>
   if t.kind = 2 then .ok (acc, tail) (n + 1) nd1
   else if tail.isSome = true then .bad t.at_ 3
   else if t.kind ≠ 4 then
    match datR dp en (ts.drop n) d nd1 with
    | .bad a e => .bad a e
    | .ok x m nd2 => match insR dp en (r.drop (m - 1)) d v (acc ++ [x]) none nd2 with
     | .bad a e => .bad a e
     | .ok w k nd3 => .ok w (n + m + k) nd3
   else if v = true ∨ acc = [] then .bad t.at_ 3
   else
    match behR dp en r d nd1 with
    | .bad a e => .bad a e
    | .ok x m nd2 => match insR dp en (r.drop m) d v acc (some x) nd2 with
     | .bad a e => .bad a e
     | .ok w k nd3 => .ok w (n + 1 + m + k) nd3
termination_by (ts.length, 2)
decreasing_by
 all_goals (try have h2 := congrArg List.length h)
 all_goals (try simp only [List.length_drop, List.length_cons] at h2)
 all_goals simp_wf
 all_goals omega
end
end
section
theorem begE_zero {dp d nd : Int} (h : ¬ begE dp d nd ≠ 0) : d ≤ dp ∧ nd + 1 ≤ 8192 := by
 unfold begE at h
 split at h
 ·exact absurd (by decide) h
 ·split at h
  ·exact absurd (by decide) h
  ·omega
def Plain (ts : List Tok) : Prop := ∀ t ∈ ts, t.d.list = []
theorem Plain.drop {ts : List Tok} (h : Plain ts) (n : Nat) : Plain (ts.drop n) := fun t ht => h t (List.mem_of_mem_drop ht)
theorem Plain.tail {t : Tok} {r : List Tok} (h : Plain (t :: r)) : Plain r := fun x hx => h x (List.mem_cons_of_mem _ hx)
theorem lsD_list (k : Int) (ds : List Dt) (a : Int) : (lsD k ds a).list = ds := rfl
theorem endD_list (l : List Dt) (t : Option Dt) (a : Int) : (endD l t a).list.length ≤ l.length + (match t with | none => 0 | some x => x.list.length + 1) := by
 unfold endD
 split
 ·simp [lsD_list]
 ·split
  ·rw [lsD_list, List.length_append]; (try simp only); omega
  ·rw [lsD_list, List.length_append]; simp
structure RdB (dp en : Int) (ts : List Tok) : Prop where
 s : ∀ (d nd : Int) (n : Nat) (nd' : Int), 0 ≤ nd → nd ≤ 8192 → skipR dp en ts d nd = .ok () n nd' → n ≤ ts.length ∧ nd ≤ nd' ∧ nd' ≤ 8192
 d : ∀ (d nd : Int) (x : Dt) (n : Nat) (nd' : Int), 0 ≤ nd → nd ≤ 8192 → datR dp en ts d nd = .ok x n nd' → 1 ≤ n ∧ n ≤ ts.length ∧ nd ≤ nd' ∧ nd' ≤ 8192 ∧ x.list.length + 1 ≤ 2 * n
 b : ∀ (d nd : Int) (x : Dt) (n : Nat) (nd' : Int), 0 ≤ nd → nd ≤ 8192 → behR dp en ts d nd = .ok x n nd' → 1 ≤ n ∧ n ≤ ts.length ∧ nd ≤ nd' ∧ nd' ≤ 8192 ∧ x.list.length + 1 ≤ 2 * n
 i : ∀ (d : Int) (v : Bool) (acc : List Dt) (tail : Option Dt) (nd : Int) (w : List Dt × Option Dt) (n : Nat) (nd' : Int), 0 ≤ nd → nd ≤ 8192 → insR dp en ts d v acc tail nd = .ok w n nd' → 1 ≤ n ∧ n ≤ ts.length ∧ nd ≤ nd' ∧ nd' ≤ 8192 ∧
  w.1.length + (match w.2 with | none => 0 | some x => x.list.length + 1) + 1 ≤ acc.length + (match tail with | none => 0 | some x => x.list.length + 1) + 2 * n
theorem rdB_all (dp en : Int) : ∀ (N : Nat) (ts : List Tok), ts.length = N → Plain ts → RdB dp en ts := by
 intro N
 induction N using Nat.strongRecOn with
 | _ N ih =>
  intro ts hN hp
  have sub : ∀ ts' : List Tok, ts'.length < ts.length → Plain ts' → RdB dp en ts' := fun ts' h hp' => ih ts'.length (by omega) ts' rfl hp'
  have hs : ∀ (d nd : Int) (n : Nat) (nd' : Int), 0 ≤ nd → nd ≤ 8192 → skipR dp en ts d nd = .ok () n nd' → n ≤ ts.length ∧ nd ≤ nd' ∧ nd' ≤ 8192 := by
   intro d nd n nd' h0 h1 h
   unfold skipR at h
   cases ts with
   | nil => simp only at h; cases h; exact ⟨by simp, by omega, by omega⟩
   | cons t r =>
    simp only at h
    by_cases c : t.kind = 5
    ·rw [if_pos c] at h
     cases hb : behR dp en r d nd with
     | bad a e => rw [hb] at h; cases h
     | ok x n1 nd1 =>
      rw [hb] at h
      simp only at h
      obtain ⟨g1, g2, g3, g4, _⟩ := (sub r (by simp) hp.tail).b d nd x n1 nd1 h0 h1 hb
      cases hk : skipR dp en (r.drop n1) d nd1 with
      | bad a e => rw [hk] at h; cases h
      | ok u m nd2 =>
       rw [hk] at h
       simp only at h
       cases h
       obtain ⟨k1, k2, k3⟩ := (sub (r.drop n1) (by simp; omega) (hp.tail.drop n1)).s d nd1 m _ (by omega) g4 hk
       rw [List.length_drop] at k1
       refine ⟨?_, ?_, ?_⟩
       ·simp only [List.length_cons]; omega
       ·omega
       ·omega
    ·rw [if_neg c] at h
     cases h
     exact ⟨by simp, by omega, by omega⟩
  have hd : ∀ (d nd : Int) (x : Dt) (n : Nat) (nd' : Int), 0 ≤ nd → nd ≤ 8192 → datR dp en ts d nd = .ok x n nd' → 1 ≤ n ∧ n ≤ ts.length ∧ nd ≤ nd' ∧ nd' ≤ 8192 ∧ x.list.length + 1 ≤ 2 * n := by
   intro d nd x n nd' h0 h1 h
   unfold datR at h
   cases ts with
   | nil => simp only at h; cases h
   | cons t r =>
    simp only at h
    by_cases c1 : t.kind = 2 ∨ t.kind = 4
    ·rw [if_pos c1] at h; cases h
    rw [if_neg c1] at h
    by_cases c2 : begE dp d nd ≠ 0
    ·rw [if_pos c2] at h; cases h
    rw [if_neg c2] at h
    obtain ⟨b1, b2⟩ := begE_zero c2
    by_cases c3 : t.kind = 7
    ·rw [if_pos c3] at h
     cases h
     refine ⟨by omega, by simp, by omega, by omega, ?_⟩
     rw [hp t (by simp)]; simp
    rw [if_neg c3] at h
    by_cases c4 : t.kind = 6
    ·rw [if_pos c4] at h
     by_cases c5 : begE dp (d + 1) (nd + 1) ≠ 0
     ·rw [if_pos c5] at h; cases h
     rw [if_neg c5] at h
     obtain ⟨b3, b4⟩ := begE_zero c5
     cases hb : behR dp en r (d + 1) (nd + 2) with
     | bad a e => rw [hb] at h; cases h
     | ok y n1 nd1 =>
      rw [hb] at h
      simp only at h
      cases h
      obtain ⟨g1, g2, g3, g4, _⟩ := (sub r (by simp) hp.tail).b _ _ _ _ _ (by omega) (by omega) hb
      refine ⟨by omega, by simp only [List.length_cons]; omega, by omega, by omega, ?_⟩
      rw [lsD_list]; simp; omega
    rw [if_neg c4] at h
    by_cases c6 : t.kind = 3
    ·rw [if_pos c6] at h
     cases hb : insR dp en r (d + 1) true [] none (nd + 1) with
     | bad a e => rw [hb] at h; cases h
     | ok y n1 nd1 =>
      rw [hb] at h
      simp only at h
      cases h
      obtain ⟨g1, g2, g3, g4, g5⟩ := (sub r (by simp) hp.tail).i _ _ _ _ _ _ _ _ (by omega) (by omega) hb
      refine ⟨by omega, by simp only [List.length_cons]; omega, by omega, by omega, ?_⟩
      rw [lsD_list]
      simp only [List.length_nil] at g5
      omega
    ·rw [if_neg c6] at h
     cases hb : insR dp en r (d + 1) false [] none (nd + 1) with
     | bad a e => rw [hb] at h; cases h
     | ok y n1 nd1 =>
      rw [hb] at h
      simp only at h
      cases h
      obtain ⟨g1, g2, g3, g4, g5⟩ := (sub r (by simp) hp.tail).i _ _ _ _ _ _ _ _ (by omega) (by omega) hb
      refine ⟨by omega, by simp only [List.length_cons]; omega, by omega, by omega, ?_⟩
      have := endD_list y.1 y.2 t.at_
      simp only [List.length_nil] at g5
      omega
  have hb : ∀ (d nd : Int) (x : Dt) (n : Nat) (nd' : Int), 0 ≤ nd → nd ≤ 8192 → behR dp en ts d nd = .ok x n nd' → 1 ≤ n ∧ n ≤ ts.length ∧ nd ≤ nd' ∧ nd' ≤ 8192 ∧ x.list.length + 1 ≤ 2 * n := by
   intro d nd x n nd' h0 h1 h
   unfold behR at h
   cases hk : skipR dp en ts d nd with
   | bad a e => rw [hk] at h; cases h
   | ok u n1 nd1 =>
    rw [hk] at h
    simp only at h
    obtain ⟨k1, k2, k3⟩ := hs d nd n1 nd1 h0 h1 hk
    have hdat : ∀ (x : Dt) (n : Nat) (nd' : Int), datR dp en (ts.drop n1) d nd1 = .ok x n nd' → 1 ≤ n ∧ n ≤ (ts.drop n1).length ∧ nd1 ≤ nd' ∧ nd' ≤ 8192 ∧ x.list.length + 1 ≤ 2 * n := by
     intro x n nd' h
     by_cases e : n1 = 0
     ·subst e
      rw [List.drop_zero] at h ⊢
      exact hd d nd1 x n nd' (by omega) k3 h
     ·by_cases hl : ts.length = 0
      ·have : ts = [] := List.length_eq_zero_iff.1 hl
       subst this
       rw [List.drop_nil] at h
       unfold datR at h
       cases h
      ·exact (sub (ts.drop n1) (by simp; omega) (hp.drop n1)).d d nd1 x n nd' (by omega) k3 h
    cases hdr : ts.drop n1 with
    | nil => rw [hdr] at h; simp only at h; cases h
    | cons t r =>
     rw [hdr] at h
     simp only at h
     by_cases c : t.kind = 2 ∨ t.kind = 4
     ·rw [if_pos c] at h; cases h
     rw [if_neg c] at h
     cases hq : datR dp en (t :: r) d nd1 with
     | bad a e => rw [hq] at h; cases h
     | ok y m nd2 =>
      rw [hq] at h
      simp only at h
      cases h
      obtain ⟨g1, g2, g3, g4, g5⟩ := hdat x m nd' (by rw [hdr]; exact hq)
      rw [List.length_drop] at g2
      exact ⟨by omega, by omega, by omega, by omega, by omega⟩
  refine ⟨hs, hd, hb, ?_⟩
  intro d v acc tail nd w n nd' h0 h1 h
  unfold insR at h
  cases hk : skipR dp en ts d nd with
  | bad a e => rw [hk] at h; cases h
  | ok u n1 nd1 =>
   rw [hk] at h
   simp only at h
   obtain ⟨k1, k2, k3⟩ := hs d nd n1 nd1 h0 h1 hk
   split at h
   ·cases h
   ·rename_i t r hdr
    have hlen := congrArg List.length hdr
    rw [List.length_drop, List.length_cons] at hlen
    have hpr : Plain r := by
     have := hp.drop n1
     rw [hdr] at this
     exact this.tail
    have hdat : ∀ (x : Dt) (n : Nat) (nd' : Int), datR dp en (ts.drop n1) d nd1 = .ok x n nd' → 1 ≤ n ∧ n ≤ (ts.drop n1).length ∧ nd1 ≤ nd' ∧ nd' ≤ 8192 ∧ x.list.length + 1 ≤ 2 * n := by
     intro x n nd' h
     by_cases e : n1 = 0
     ·subst e
      rw [List.drop_zero] at h ⊢
      exact hd d nd1 x n nd' (by omega) k3 h
     ·exact (sub (ts.drop n1) (by simp; omega) (hp.drop n1)).d d nd1 x n nd' (by omega) k3 h
    by_cases c1 : t.kind = 2
    ·rw [if_pos c1] at h
     cases h
     refine ⟨by omega, by omega, by omega, by omega, ?_⟩
     simp only; omega
    rw [if_neg c1] at h
    by_cases c2 : tail.isSome = true
    ·rw [if_pos c2] at h; cases h
    rw [if_neg c2] at h
    have ht : tail = none := by cases tail with
     | none => rfl
     | some x => exact absurd rfl c2
    subst ht
    by_cases c3 : t.kind ≠ 4
    ·rw [if_pos c3] at h
     cases hq : datR dp en (ts.drop n1) d nd1 with
     | bad a e => rw [hq] at h; cases h
     | ok y m nd2 =>
      rw [hq] at h
      simp only at h
      obtain ⟨g1, g2, g3, g4, g5⟩ := hdat y m nd2 hq
      rw [List.length_drop] at g2
      cases hi : insR dp en (r.drop (m - 1)) d v (acc ++ [y]) none nd2 with
      | bad a e => rw [hi] at h; cases h
      | ok w' k nd3 =>
       rw [hi] at h
       simp only at h
       cases h
       obtain ⟨j1, j2, j3, j4, j5⟩ := (sub (r.drop (m - 1)) (by simp; omega) (hpr.drop _)).i _ _ _ _ _ _ _ _ (by omega) g4 hi
       rw [List.length_drop] at j2
       refine ⟨by omega, by omega, by omega, by omega, ?_⟩
       simp only [List.length_append, List.length_cons, List.length_nil] at j5 ⊢
       omega
    ·rw [if_neg c3] at h
     by_cases c4 : v = true ∨ acc = []
     ·rw [if_pos c4] at h; cases h
     rw [if_neg c4] at h
     cases hq : behR dp en r d nd1 with
     | bad a e => rw [hq] at h; cases h
     | ok y m nd2 =>
      rw [hq] at h
      simp only at h
      obtain ⟨g1, g2, g3, g4, g5⟩ := (sub r (by omega) hpr).b _ _ _ _ _ (by omega) k3 hq
      cases hi : insR dp en (r.drop m) d v acc (some y) nd2 with
      | bad a e => rw [hi] at h; cases h
      | ok w' k nd3 =>
       rw [hi] at h
       simp only at h
       cases h
       obtain ⟨j1, j2, j3, j4, j5⟩ := (sub (r.drop m) (by simp; omega) (hpr.drop _)).i _ _ _ _ _ _ _ _ (by omega) g4 hi
       rw [List.length_drop] at j2
       refine ⟨by omega, by omega, by omega, by omega, ?_⟩
       simp only at j5 ⊢
       omega
end
section
def read_fail_lv : List Nat → Keep := lvOf []
def read_fail_H (R : TV → List Ob → Prop) (RX : FV → List Ob → Prop) (at_ : Int) (e : Int) : Prop :=
 (RX (FV.ifv 66 true [(FV.int .i64 at_), (FV.int .i64 e)]) [])
theorem read_fail_fx (at_ : Int) (e : Int) {x : FV} (H : read_fail_H (fun _ _ => False) (fun x' h' => x' = x ∧ h' = shH []) at_ e) : FnX Tryz.prog 70 [(TV.one (AV.fz (FV.int .i64 at_))), (TV.one (AV.fz (FV.int .i64 e)))] [] x :=
 FnX.by_tr (M := (modeX [] [] [] 0 (fun x' h' => x' = x ∧ h' = shH []))) (lv := read_fail_lv) (own := none) (F := Tryz.f70) (by kernel_rfl) (by kernel_rfl) (by first | decide | simp) (fun _ _ h => h) (by kernel_rfl) H
def read_reader_moreO_lv : List Nat → Keep := lvOf []
def read_reader_moreO_H (R : TV → List Ob → Prop) (ws : List (List FV)) (p : Int) (en : Int) (dp : Int) (nd : Int) : Prop :=
 (R (TV.one (AV.fz (FV.bool (decide (p < (((List.length ws) : Nat) : Int)))))) [(Ob.g 70 [(AV.fz (FV.sl 9 ws)), (AV.fz (FV.int .i64 p)), (AV.fz (FV.int .i64 en)), (AV.fz (FV.int .i64 dp)), (AV.fz (FV.int .i64 nd))])])
theorem read_reader_moreO_fn (ws : LL) (p : Int) (en : Int) (dp : Int) (nd : Int) {r : TV} {h : List Ob} (H : read_reader_moreO_H (fun r' h' => r' = r ∧ Wk h' h) ws p en dp nd) : Fn Tryz.prog 41 [(TV.one (AV.ptr 0 0 0 70))] [(Ob.g 70 [(AV.fz (FV.sl 9 ws)), (AV.fz (FV.int .i64 p)), (AV.fz (FV.int .i64 en)), (AV.fz (FV.int .i64 dp)), (AV.fz (FV.int .i64 nd))])] r h :=
 Fn.by_trW (M := (modeOf [] [])) (lv := read_reader_moreO_lv) (own := (some 1)) (F := Tryz.f41) (by kernel_rfl) (by kernel_rfl) (by first | decide | simp) (fun _ _ h => h) (by kernel_rfl) H
def read_reader_beginO_lv : List Nat → Keep := lvOf []
def read_reader_beginO_H (R : TV → List Ob → Prop) (RX : FV → List Ob → Prop) (a : Int) (d : Int) (ws : LL) (p : Int) (en : Int) (dp : Int) (nd : Int) : Prop :=
 ((((decide (dp < d)) = true) → (∃ v2 : FV, ((FnX Tryz.prog 70 [(TV.one (AV.fz (FV.int .i64 a))), (TV.one (AV.fz (FV.int .i64 5)))] [] v2) ∧ (RX v2 [(Ob.g 70 [AV.und, AV.und, AV.und, AV.und, AV.und])])))) ∧ (((decide (dp < d)) = false) → ((((decide ((8192 : Int) < (IntKind.wrap .i64 (nd + 1)))) = true) → (∃ v3 : FV, ((FnX Tryz.prog 70 [(TV.one (AV.fz (FV.int .i64 a))), (TV.one (AV.fz (FV.int .i64 6)))] [] v3) ∧ (RX v3 [(Ob.g 70 [AV.und, AV.und, AV.und, AV.und, AV.und])])))) ∧ (((decide ((8192 : Int) < (IntKind.wrap .i64 (nd + 1)))) = false) → (R (TV.tup []) [(Ob.g 70 [(AV.fz (FV.sl 9 ws)), (AV.fz (FV.int .i64 p)), (AV.fz (FV.int .i64 en)), (AV.fz (FV.int .i64 dp)), (AV.fz (FV.int .i64 (IntKind.wrap .i64 (nd + 1))))])])))))
theorem read_reader_beginO_fn (a : Int) (d : Int) (ws : LL) (p : Int) (en : Int) (dp : Int) (nd : Int) {r : TV} {h : List Ob} (H : read_reader_beginO_H (fun r' h' => r' = r ∧ Wk h' h) (fun _ _ => False) a d ws p en dp nd) : Fn Tryz.prog 71 [(TV.one (AV.ptr 0 0 0 70)), (TV.one (AV.fz (FV.int .i64 a))), (TV.one (AV.fz (FV.int .i64 d)))] [(Ob.g 70 [(AV.fz (FV.sl 9 ws)), (AV.fz (FV.int .i64 p)), (AV.fz (FV.int .i64 en)), (AV.fz (FV.int .i64 dp)), (AV.fz (FV.int .i64 nd))])] r h :=
 Fn.by_trW (M := (modeX [] [] [70, 1000070] 1 (fun _ _ => False))) (lv := read_reader_beginO_lv) (own := (some 1)) (F := Tryz.f71) (by kernel_rfl) (by kernel_rfl) (by first | decide | simp) (fun _ _ h => h) (by kernel_rfl) H
theorem read_reader_beginO_fx (a : Int) (d : Int) (ws : LL) (p : Int) (en : Int) (dp : Int) (nd : Int) {x : FV} (H : read_reader_beginO_H (fun _ _ => False) (fun x' h' => x' = x ∧ h' = shH [(Ob.g 70 [(AV.fz (FV.sl 9 ws)), (AV.fz (FV.int .i64 p)), (AV.fz (FV.int .i64 en)), (AV.fz (FV.int .i64 dp)), (AV.fz (FV.int .i64 nd))])]) a d ws p en dp nd) : FnX Tryz.prog 71 [(TV.one (AV.ptr 0 0 0 70)), (TV.one (AV.fz (FV.int .i64 a))), (TV.one (AV.fz (FV.int .i64 d)))] [(Ob.g 70 [(AV.fz (FV.sl 9 ws)), (AV.fz (FV.int .i64 p)), (AV.fz (FV.int .i64 en)), (AV.fz (FV.int .i64 dp)), (AV.fz (FV.int .i64 nd))])] x :=
 FnX.by_tr (M := (modeX [] [] [70, 1000070] 1 (fun x' h' => x' = x ∧ h' = shH [(Ob.g 70 [(AV.fz (FV.sl 9 ws)), (AV.fz (FV.int .i64 p)), (AV.fz (FV.int .i64 en)), (AV.fz (FV.int .i64 dp)), (AV.fz (FV.int .i64 nd))])]))) (lv := read_reader_beginO_lv) (own := (some 1)) (F := Tryz.f71) (by kernel_rfl) (by kernel_rfl) (by first | decide | simp) (fun _ _ h => h) (by kernel_rfl) H
def read_reader_skipsO_lv : List Nat → Keep := lvOf [([0], ⟨3, 0, [], false, false⟩)]
def read_reader_skipsO_S0 (d : Int) (o : LL) (o1 : Int) (o2 : Int) (o3 : Int) (o4 : Int) : St := (St.mk [(TV.one (AV.ptr 0 0 0 70)), (TV.one (AV.fz (FV.int .i64 d))), TV.und, TV.und, TV.und, TV.und, TV.und, TV.und, TV.und, TV.und, TV.und, TV.und, TV.und, TV.und, TV.und, TV.und, TV.und, TV.und, TV.und, TV.und, TV.und, TV.und, TV.und, TV.und, TV.und, TV.und, TV.und, TV.und, TV.und, TV.und, TV.und, TV.und, TV.und, TV.und, TV.und, TV.und, TV.und, TV.und, TV.und, TV.und, TV.und, TV.und, TV.und] [(Ob.g 70 [(AV.fz (FV.sl 9 o)), (AV.fz (FV.int .i64 o1)), (AV.fz (FV.int .i64 o2)), (AV.fz (FV.int .i64 o3)), (AV.fz (FV.int .i64 o4))])])
def read_reader_skipsO_L0 (R : TV → List Ob → Prop) (RX : FV → List Ob → Prop) (d : Int) (o : LL) (o1 : Int) (o2 : Int) (o3 : Int) (o4 : Int) : Prop := LoopAt Tryz.prog (modeX [] [(41, [(Sig.mk 1 [(false, [(AT.k CK.bool)])] [(OT.g 70 [(AT.k (CK.sl 9)), (AT.k (CK.int .i64)), (AT.k (CK.int .i64)), (AT.k (CK.int .i64)), (AT.k (CK.int .i64))])] 0)]), (69, [(Sig.mk 1 [(true, [(AT.k (CK.int .i64)), (AT.k CK.str), (AT.k CK.bool), (AT.k (CK.sl 1)), (AT.k (CK.sl 6)), (AT.k (CK.int .i64))])] [(OT.g 70 [(AT.k (CK.sl 9)), (AT.k (CK.int .i64)), (AT.k (CK.int .i64)), (AT.k (CK.int .i64)), (AT.k (CK.int .i64))])] 0)])] [69] 1 RX) read_reader_skipsO_lv Tryz.f40 (some 1) R [0] (read_reader_skipsO_S0 d o o1 o2 o3 o4)
def read_reader_skipsO_R0 (R : TV → List Ob → Prop) (RX : FV → List Ob → Prop) (d : Int) (o : LL) (o1 : Int) (o2 : Int) (o3 : Int) (o4 : Int) : Prop :=
 (∃ es16 : LL, (∃ n36 : Int, (∃ n37 : Int, (∃ n38 : Int, (∃ n39 : Int, (∃ b8 : Bool, ((Fn Tryz.prog 41 [(TV.one (AV.ptr 0 0 0 70))] [(Ob.g 70 [(AV.fz (FV.sl 9 o)), (AV.fz (FV.int .i64 o1)), (AV.fz (FV.int .i64 o2)), (AV.fz (FV.int .i64 o3)), (AV.fz (FV.int .i64 o4))])] (TV.one (AV.fz (FV.bool b8))) [(Ob.g 70 [(AV.fz (FV.sl 9 es16)), (AV.fz (FV.int .i64 n36)), (AV.fz (FV.int .i64 n37)), (AV.fz (FV.int .i64 n38)), (AV.fz (FV.int .i64 n39))])]) ∧ (((b8 = true) → (((0 : Int) ≤ n36) ∧ (∃ n40 : Int, (∃ s10 : ByteArray, (∃ n41 : Int, (∃ s11 : ByteArray, (∃ b9 : Bool, (∃ es17 : LL, (∃ es18 : LL, (∃ n42 : Int, (∃ n43 : Int, (((es16)[(Int.toNat n36)]? = (some [(FV.int .i64 n40), (FV.str s10), (FV.int .i64 n41), (FV.str s11), (FV.bool b9), (FV.sl 1 es17), (FV.sl 6 es18), (FV.int .i64 n42), (FV.int .i64 n43)])) ∧ ((((n40 == 5) = true) → (((0 : Int) ≤ n36) ∧ (∃ n44 : Int, (∃ s12 : ByteArray, (∃ n45 : Int, (∃ s13 : ByteArray, (∃ b10 : Bool, (∃ es19 : LL, (∃ es20 : LL, (∃ n46 : Int, (∃ n47 : Int, (((es16)[(Int.toNat n36)]? = (some [(FV.int .i64 n44), (FV.str s12), (FV.int .i64 n45), (FV.str s13), (FV.bool b10), (FV.sl 1 es19), (FV.sl 6 es20), (FV.int .i64 n46), (FV.int .i64 n47)])) ∧ ((∃ v2 : FV, ((FnX Tryz.prog 69 [(TV.one (AV.ptr 0 0 0 70)), (TV.one (AV.fz (FV.int .i64 n47))), (TV.one (AV.fz (FV.int .i64 d)))] [(Ob.g 70 [(AV.fz (FV.sl 9 es16)), (AV.fz (FV.int .i64 (IntKind.wrap .i64 (n36 + 1)))), (AV.fz (FV.int .i64 n37)), (AV.fz (FV.int .i64 n38)), (AV.fz (FV.int .i64 n39))])] v2) ∧ (RX v2 [(Ob.g 70 [AV.und, AV.und, AV.und, AV.und, AV.und])]))) ∨ (∃ es21 : LL, (∃ n48 : Int, (∃ n49 : Int, (∃ n50 : Int, (∃ n51 : Int, (∃ n52 : Int, (∃ s14 : ByteArray, (∃ b11 : Bool, (∃ es22 : LL, (∃ es23 : LL, (∃ n53 : Int, ((Fn Tryz.prog 69 [(TV.one (AV.ptr 0 0 0 70)), (TV.one (AV.fz (FV.int .i64 n47))), (TV.one (AV.fz (FV.int .i64 d)))] [(Ob.g 70 [(AV.fz (FV.sl 9 es16)), (AV.fz (FV.int .i64 (IntKind.wrap .i64 (n36 + 1)))), (AV.fz (FV.int .i64 n37)), (AV.fz (FV.int .i64 n38)), (AV.fz (FV.int .i64 n39))])] (TV.agg [(AV.fz (FV.int .i64 n52)), (AV.fz (FV.str s14)), (AV.fz (FV.bool b11)), (AV.fz (FV.sl 1 es22)), (AV.fz (FV.sl 6 es23)), (AV.fz (FV.int .i64 n53))]) [(Ob.g 70 [(AV.fz (FV.sl 9 es21)), (AV.fz (FV.int .i64 n48)), (AV.fz (FV.int .i64 n49)), (AV.fz (FV.int .i64 n50)), (AV.fz (FV.int .i64 n51))])]) ∧ (read_reader_skipsO_L0 R RX d es21 n48 n49 n50 n51)))))))))))))))))))))))))) ∧ (((n40 == 5) = false) → (R (TV.tup []) [(Ob.g 70 [(AV.fz (FV.sl 9 es16)), (AV.fz (FV.int .i64 n36)), (AV.fz (FV.int .i64 n37)), (AV.fz (FV.int .i64 n38)), (AV.fz (FV.int .i64 n39))])]))))))))))))))) ∧ ((b8 = false) → (R (TV.tup []) [(Ob.g 70 [(AV.fz (FV.sl 9 es16)), (AV.fz (FV.int .i64 n36)), (AV.fz (FV.int .i64 n37)), (AV.fz (FV.int .i64 n38)), (AV.fz (FV.int .i64 n39))])]))))))))))
theorem read_reader_skipsO_l0 {R : TV → List Ob → Prop} {RX : FV → List Ob → Prop} {d : Int} {o : LL} {o1 : Int} {o2 : Int} {o3 : Int} {o4 : Int} (h : read_reader_skipsO_R0 R RX d o o1 o2 o3 o4) : read_reader_skipsO_L0 R RX d o o1 o2 o3 o4 :=
 LoopAt.by_tr (by kernel_rfl) (by kernel_rfl) h
def read_reader_skipsO_H (R : TV → List Ob → Prop) (RX : FV → List Ob → Prop) (d : Int) (ws : LL) (p : Int) (en : Int) (dp : Int) (nd : Int) : Prop :=
 (read_reader_skipsO_L0 R RX d ws p en dp nd)
theorem read_reader_skipsO_fn (d : Int) (ws : LL) (p : Int) (en : Int) (dp : Int) (nd : Int) {r : TV} {h : List Ob} (H : read_reader_skipsO_H (fun r' h' => r' = r ∧ Wk h' h) (fun _ _ => False) d ws p en dp nd) : Fn Tryz.prog 40 [(TV.one (AV.ptr 0 0 0 70)), (TV.one (AV.fz (FV.int .i64 d)))] [(Ob.g 70 [(AV.fz (FV.sl 9 ws)), (AV.fz (FV.int .i64 p)), (AV.fz (FV.int .i64 en)), (AV.fz (FV.int .i64 dp)), (AV.fz (FV.int .i64 nd))])] r h :=
 Fn.by_trW (M := (modeX [] [(41, [(Sig.mk 1 [(false, [(AT.k CK.bool)])] [(OT.g 70 [(AT.k (CK.sl 9)), (AT.k (CK.int .i64)), (AT.k (CK.int .i64)), (AT.k (CK.int .i64)), (AT.k (CK.int .i64))])] 0)]), (69, [(Sig.mk 1 [(true, [(AT.k (CK.int .i64)), (AT.k CK.str), (AT.k CK.bool), (AT.k (CK.sl 1)), (AT.k (CK.sl 6)), (AT.k (CK.int .i64))])] [(OT.g 70 [(AT.k (CK.sl 9)), (AT.k (CK.int .i64)), (AT.k (CK.int .i64)), (AT.k (CK.int .i64)), (AT.k (CK.int .i64))])] 0)])] [69] 1 (fun _ _ => False))) (lv := read_reader_skipsO_lv) (own := (some 1)) (F := Tryz.f40) (by kernel_rfl) (by kernel_rfl) (by first | decide | simp) (fun _ _ h => h) (by kernel_rfl) H
theorem read_reader_skipsO_fx (d : Int) (ws : LL) (p : Int) (en : Int) (dp : Int) (nd : Int) {x : FV} (H : read_reader_skipsO_H (fun _ _ => False) (fun x' h' => x' = x ∧ h' = shH [(Ob.g 70 [(AV.fz (FV.sl 9 ws)), (AV.fz (FV.int .i64 p)), (AV.fz (FV.int .i64 en)), (AV.fz (FV.int .i64 dp)), (AV.fz (FV.int .i64 nd))])]) d ws p en dp nd) : FnX Tryz.prog 40 [(TV.one (AV.ptr 0 0 0 70)), (TV.one (AV.fz (FV.int .i64 d)))] [(Ob.g 70 [(AV.fz (FV.sl 9 ws)), (AV.fz (FV.int .i64 p)), (AV.fz (FV.int .i64 en)), (AV.fz (FV.int .i64 dp)), (AV.fz (FV.int .i64 nd))])] x :=
 FnX.by_tr (M := (modeX [] [(41, [(Sig.mk 1 [(false, [(AT.k CK.bool)])] [(OT.g 70 [(AT.k (CK.sl 9)), (AT.k (CK.int .i64)), (AT.k (CK.int .i64)), (AT.k (CK.int .i64)), (AT.k (CK.int .i64))])] 0)]), (69, [(Sig.mk 1 [(true, [(AT.k (CK.int .i64)), (AT.k CK.str), (AT.k CK.bool), (AT.k (CK.sl 1)), (AT.k (CK.sl 6)), (AT.k (CK.int .i64))])] [(OT.g 70 [(AT.k (CK.sl 9)), (AT.k (CK.int .i64)), (AT.k (CK.int .i64)), (AT.k (CK.int .i64)), (AT.k (CK.int .i64))])] 0)])] [69] 1 (fun x' h' => x' = x ∧ h' = shH [(Ob.g 70 [(AV.fz (FV.sl 9 ws)), (AV.fz (FV.int .i64 p)), (AV.fz (FV.int .i64 en)), (AV.fz (FV.int .i64 dp)), (AV.fz (FV.int .i64 nd))])]))) (lv := read_reader_skipsO_lv) (own := (some 1)) (F := Tryz.f40) (by kernel_rfl) (by kernel_rfl) (by first | decide | simp) (fun _ _ h => h) (by kernel_rfl) H
def read_reader_behindO_lv : List Nat → Keep := lvOf []
def read_reader_behindO_H (R : TV → List Ob → Prop) (RX : FV → List Ob → Prop) (a : Int) (d : Int) (ws : LL) (p : Int) (en : Int) (dp : Int) (nd : Int) : Prop :=
 ((∃ v5 : FV, ((FnX Tryz.prog 40 [(TV.one (AV.ptr 0 0 0 70)), (TV.one (AV.fz (FV.int .i64 d)))] [(Ob.g 70 [(AV.fz (FV.sl 9 ws)), (AV.fz (FV.int .i64 p)), (AV.fz (FV.int .i64 en)), (AV.fz (FV.int .i64 dp)), (AV.fz (FV.int .i64 nd))])] v5) ∧ (RX v5 [(Ob.g 70 [AV.und, AV.und, AV.und, AV.und, AV.und])]))) ∨ (∃ es11 : LL, (∃ n26 : Int, (∃ n27 : Int, (∃ n28 : Int, (∃ n29 : Int, ((Fn Tryz.prog 40 [(TV.one (AV.ptr 0 0 0 70)), (TV.one (AV.fz (FV.int .i64 d)))] [(Ob.g 70 [(AV.fz (FV.sl 9 ws)), (AV.fz (FV.int .i64 p)), (AV.fz (FV.int .i64 en)), (AV.fz (FV.int .i64 dp)), (AV.fz (FV.int .i64 nd))])] (TV.tup []) [(Ob.g 70 [(AV.fz (FV.sl 9 es11)), (AV.fz (FV.int .i64 n26)), (AV.fz (FV.int .i64 n27)), (AV.fz (FV.int .i64 n28)), (AV.fz (FV.int .i64 n29))])]) ∧ (∃ es12 : LL, (∃ n30 : Int, (∃ n31 : Int, (∃ n32 : Int, (∃ n33 : Int, (∃ b5 : Bool, ((Fn Tryz.prog 41 [(TV.one (AV.ptr 0 0 0 70))] [(Ob.g 70 [(AV.fz (FV.sl 9 es11)), (AV.fz (FV.int .i64 n26)), (AV.fz (FV.int .i64 n27)), (AV.fz (FV.int .i64 n28)), (AV.fz (FV.int .i64 n29))])] (TV.one (AV.fz (FV.bool b5))) [(Ob.g 70 [(AV.fz (FV.sl 9 es12)), (AV.fz (FV.int .i64 n30)), (AV.fz (FV.int .i64 n31)), (AV.fz (FV.int .i64 n32)), (AV.fz (FV.int .i64 n33))])]) ∧ ((((Bool.not b5) = true) → (∃ v6 : FV, ((FnX Tryz.prog 70 [(TV.one (AV.fz (FV.int .i64 n31))), (TV.one (AV.fz (FV.int .i64 3)))] [] v6) ∧ (RX v6 [(Ob.g 70 [AV.und, AV.und, AV.und, AV.und, AV.und])])))) ∧ (((Bool.not b5) = false) → (((0 : Int) ≤ n30) ∧ (∃ n34 : Int, (∃ s7 : ByteArray, (∃ n35 : Int, (∃ s8 : ByteArray, (∃ b6 : Bool, (∃ es13 : LL, (∃ es14 : LL, (∃ n36 : Int, (∃ n37 : Int, (((es12)[(Int.toNat n30)]? = (some [(FV.int .i64 n34), (FV.str s7), (FV.int .i64 n35), (FV.str s8), (FV.bool b6), (FV.sl 1 es13), (FV.sl 6 es14), (FV.int .i64 n36), (FV.int .i64 n37)])) ∧ ((((n34 == 2) = true) → (((0 : Int) ≤ n30) ∧ (∃ n38 : Int, (∃ s9 : ByteArray, (∃ n39 : Int, (∃ s10 : ByteArray, (∃ b7 : Bool, (∃ es15 : LL, (∃ es16 : LL, (∃ n40 : Int, (∃ n41 : Int, (((es12)[(Int.toNat n30)]? = (some [(FV.int .i64 n38), (FV.str s9), (FV.int .i64 n39), (FV.str s10), (FV.bool b7), (FV.sl 1 es15), (FV.sl 6 es16), (FV.int .i64 n40), (FV.int .i64 n41)])) ∧ (∃ v7 : FV, ((FnX Tryz.prog 70 [(TV.one (AV.fz (FV.int .i64 n41))), (TV.one (AV.fz (FV.int .i64 3)))] [] v7) ∧ (RX v7 [(Ob.g 70 [AV.und, AV.und, AV.und, AV.und, AV.und])]))))))))))))))) ∧ (((n34 == 2) = false) → ((((n34 == 4) = true) → (((0 : Int) ≤ n30) ∧ (∃ n42 : Int, (∃ s11 : ByteArray, (∃ n43 : Int, (∃ s12 : ByteArray, (∃ b8 : Bool, (∃ es17 : LL, (∃ es18 : LL, (∃ n44 : Int, (∃ n45 : Int, (((es12)[(Int.toNat n30)]? = (some [(FV.int .i64 n42), (FV.str s11), (FV.int .i64 n43), (FV.str s12), (FV.bool b8), (FV.sl 1 es17), (FV.sl 6 es18), (FV.int .i64 n44), (FV.int .i64 n45)])) ∧ (∃ v8 : FV, ((FnX Tryz.prog 70 [(TV.one (AV.fz (FV.int .i64 n45))), (TV.one (AV.fz (FV.int .i64 3)))] [] v8) ∧ (RX v8 [(Ob.g 70 [AV.und, AV.und, AV.und, AV.und, AV.und])]))))))))))))))) ∧ (((n34 == 4) = false) → ((∃ v9 : FV, ((FnX Tryz.prog 42 [(TV.one (AV.ptr 0 0 0 70)), (TV.one (AV.fz (FV.int .i64 d)))] [(Ob.g 70 [(AV.fz (FV.sl 9 es12)), (AV.fz (FV.int .i64 n30)), (AV.fz (FV.int .i64 n31)), (AV.fz (FV.int .i64 n32)), (AV.fz (FV.int .i64 n33))])] v9) ∧ (RX v9 [(Ob.g 70 [AV.und, AV.und, AV.und, AV.und, AV.und])]))) ∨ (∃ es19 : LL, (∃ n46 : Int, (∃ n47 : Int, (∃ n48 : Int, (∃ n49 : Int, (∃ n50 : Int, (∃ s13 : ByteArray, (∃ b9 : Bool, (∃ es20 : LL, (∃ es21 : LL, (∃ n51 : Int, ((Fn Tryz.prog 42 [(TV.one (AV.ptr 0 0 0 70)), (TV.one (AV.fz (FV.int .i64 d)))] [(Ob.g 70 [(AV.fz (FV.sl 9 es12)), (AV.fz (FV.int .i64 n30)), (AV.fz (FV.int .i64 n31)), (AV.fz (FV.int .i64 n32)), (AV.fz (FV.int .i64 n33))])] (TV.agg [(AV.fz (FV.int .i64 n50)), (AV.fz (FV.str s13)), (AV.fz (FV.bool b9)), (AV.fz (FV.sl 1 es20)), (AV.fz (FV.sl 6 es21)), (AV.fz (FV.int .i64 n51))]) [(Ob.g 70 [(AV.fz (FV.sl 9 es19)), (AV.fz (FV.int .i64 n46)), (AV.fz (FV.int .i64 n47)), (AV.fz (FV.int .i64 n48)), (AV.fz (FV.int .i64 n49))])]) ∧ (R (TV.agg [(AV.fz (FV.int .i64 n50)), (AV.fz (FV.str s13)), (AV.fz (FV.bool b9)), (AV.fz (FV.sl 1 es20)), (AV.fz (FV.sl 6 es21)), (AV.fz (FV.int .i64 n51))]) [(Ob.g 70 [(AV.fz (FV.sl 9 es19)), (AV.fz (FV.int .i64 n46)), (AV.fz (FV.int .i64 n47)), (AV.fz (FV.int .i64 n48)), (AV.fz (FV.int .i64 n49))])])))))))))))))))))))))))))))))))))))))))))))))
theorem read_reader_behindO_fn (a : Int) (d : Int) (ws : LL) (p : Int) (en : Int) (dp : Int) (nd : Int) {r : TV} {h : List Ob} (H : read_reader_behindO_H (fun r' h' => r' = r ∧ Wk h' h) (fun _ _ => False) a d ws p en dp nd) : Fn Tryz.prog 69 [(TV.one (AV.ptr 0 0 0 70)), (TV.one (AV.fz (FV.int .i64 a))), (TV.one (AV.fz (FV.int .i64 d)))] [(Ob.g 70 [(AV.fz (FV.sl 9 ws)), (AV.fz (FV.int .i64 p)), (AV.fz (FV.int .i64 en)), (AV.fz (FV.int .i64 dp)), (AV.fz (FV.int .i64 nd))])] r h :=
 Fn.by_trW (M := (modeX [] [(41, [(Sig.mk 1 [(false, [(AT.k CK.bool)])] [(OT.g 70 [(AT.k (CK.sl 9)), (AT.k (CK.int .i64)), (AT.k (CK.int .i64)), (AT.k (CK.int .i64)), (AT.k (CK.int .i64))])] 0)]), (40, [(Sig.mk 1 [] [(OT.g 70 [(AT.k (CK.sl 9)), (AT.k (CK.int .i64)), (AT.k (CK.int .i64)), (AT.k (CK.int .i64)), (AT.k (CK.int .i64))])] 0)]), (42, [(Sig.mk 1 [(true, [(AT.k (CK.int .i64)), (AT.k CK.str), (AT.k CK.bool), (AT.k (CK.sl 1)), (AT.k (CK.sl 6)), (AT.k (CK.int .i64))])] [(OT.g 70 [(AT.k (CK.sl 9)), (AT.k (CK.int .i64)), (AT.k (CK.int .i64)), (AT.k (CK.int .i64)), (AT.k (CK.int .i64))])] 0)])] [70, 40, 42, 1000070] 1 (fun _ _ => False))) (lv := read_reader_behindO_lv) (own := (some 1)) (F := Tryz.f69) (by kernel_rfl) (by kernel_rfl) (by first | decide | simp) (fun _ _ h => h) (by kernel_rfl) H
theorem read_reader_behindO_fx (a : Int) (d : Int) (ws : LL) (p : Int) (en : Int) (dp : Int) (nd : Int) {x : FV} (H : read_reader_behindO_H (fun _ _ => False) (fun x' h' => x' = x ∧ h' = shH [(Ob.g 70 [(AV.fz (FV.sl 9 ws)), (AV.fz (FV.int .i64 p)), (AV.fz (FV.int .i64 en)), (AV.fz (FV.int .i64 dp)), (AV.fz (FV.int .i64 nd))])]) a d ws p en dp nd) : FnX Tryz.prog 69 [(TV.one (AV.ptr 0 0 0 70)), (TV.one (AV.fz (FV.int .i64 a))), (TV.one (AV.fz (FV.int .i64 d)))] [(Ob.g 70 [(AV.fz (FV.sl 9 ws)), (AV.fz (FV.int .i64 p)), (AV.fz (FV.int .i64 en)), (AV.fz (FV.int .i64 dp)), (AV.fz (FV.int .i64 nd))])] x :=
 FnX.by_tr (M := (modeX [] [(41, [(Sig.mk 1 [(false, [(AT.k CK.bool)])] [(OT.g 70 [(AT.k (CK.sl 9)), (AT.k (CK.int .i64)), (AT.k (CK.int .i64)), (AT.k (CK.int .i64)), (AT.k (CK.int .i64))])] 0)]), (40, [(Sig.mk 1 [] [(OT.g 70 [(AT.k (CK.sl 9)), (AT.k (CK.int .i64)), (AT.k (CK.int .i64)), (AT.k (CK.int .i64)), (AT.k (CK.int .i64))])] 0)]), (42, [(Sig.mk 1 [(true, [(AT.k (CK.int .i64)), (AT.k CK.str), (AT.k CK.bool), (AT.k (CK.sl 1)), (AT.k (CK.sl 6)), (AT.k (CK.int .i64))])] [(OT.g 70 [(AT.k (CK.sl 9)), (AT.k (CK.int .i64)), (AT.k (CK.int .i64)), (AT.k (CK.int .i64)), (AT.k (CK.int .i64))])] 0)])] [70, 40, 42, 1000070] 1 (fun x' h' => x' = x ∧ h' = shH [(Ob.g 70 [(AV.fz (FV.sl 9 ws)), (AV.fz (FV.int .i64 p)), (AV.fz (FV.int .i64 en)), (AV.fz (FV.int .i64 dp)), (AV.fz (FV.int .i64 nd))])]))) (lv := read_reader_behindO_lv) (own := (some 1)) (F := Tryz.f69) (by kernel_rfl) (by kernel_rfl) (by first | decide | simp) (fun _ _ h => h) (by kernel_rfl) H
def read_reader_datumO_lv : List Nat → Keep := lvOf []
def read_reader_datumO_H (R : TV → List Ob → Prop) (RX : FV → List Ob → Prop) (d : Int) (ws : LL) (p : Int) (en : Int) (dp : Int) (nd : Int) : Prop :=
 (((0 : Int) ≤ p) ∧ (∃ n38 : Int, (∃ s5 : ByteArray, (∃ n39 : Int, (∃ s6 : ByteArray, (∃ b4 : Bool, (∃ es19 : LL, (∃ es20 : LL, (∃ n40 : Int, (∃ n41 : Int, (((ws)[(Int.toNat p)]? = (some [(FV.int .i64 n38), (FV.str s5), (FV.int .i64 n39), (FV.str s6), (FV.bool b4), (FV.sl 1 es19), (FV.sl 6 es20), (FV.int .i64 n40), (FV.int .i64 n41)])) ∧ ((((n38 == 2) = true) → (∃ v7 : FV, ((FnX Tryz.prog 70 [(TV.one (AV.fz (FV.int .i64 n41))), (TV.one (AV.fz (FV.int .i64 3)))] [] v7) ∧ (RX v7 [(Ob.g 70 [AV.und, AV.und, AV.und, AV.und, AV.und])])))) ∧ (((n38 == 2) = false) → ((((n38 == 4) = true) → (∃ v8 : FV, ((FnX Tryz.prog 70 [(TV.one (AV.fz (FV.int .i64 n41))), (TV.one (AV.fz (FV.int .i64 3)))] [] v8) ∧ (RX v8 [(Ob.g 70 [AV.und, AV.und, AV.und, AV.und, AV.und])])))) ∧ (((n38 == 4) = false) → ((∃ v9 : FV, ((FnX Tryz.prog 71 [(TV.one (AV.ptr 0 0 0 70)), (TV.one (AV.fz (FV.int .i64 n41))), (TV.one (AV.fz (FV.int .i64 d)))] [(Ob.g 70 [(AV.fz (FV.sl 9 ws)), (AV.fz (FV.int .i64 p)), (AV.fz (FV.int .i64 en)), (AV.fz (FV.int .i64 dp)), (AV.fz (FV.int .i64 nd))])] v9) ∧ (RX v9 [(Ob.g 70 [AV.und, AV.und, AV.und, AV.und, AV.und])]))) ∨ (∃ es21 : LL, (∃ n42 : Int, (∃ n43 : Int, (∃ n44 : Int, (∃ n45 : Int, ((Fn Tryz.prog 71 [(TV.one (AV.ptr 0 0 0 70)), (TV.one (AV.fz (FV.int .i64 n41))), (TV.one (AV.fz (FV.int .i64 d)))] [(Ob.g 70 [(AV.fz (FV.sl 9 ws)), (AV.fz (FV.int .i64 p)), (AV.fz (FV.int .i64 en)), (AV.fz (FV.int .i64 dp)), (AV.fz (FV.int .i64 nd))])] (TV.tup []) [(Ob.g 70 [(AV.fz (FV.sl 9 es21)), (AV.fz (FV.int .i64 n42)), (AV.fz (FV.int .i64 n43)), (AV.fz (FV.int .i64 n44)), (AV.fz (FV.int .i64 n45))])]) ∧ ((((n38 == 7) = true) → (R (TV.agg [(AV.fz (FV.int .i64 n39)), (AV.fz (FV.str s6)), (AV.fz (FV.bool b4)), (AV.fz (FV.sl 1 es19)), (AV.fz (FV.sl 6 es20)), (AV.fz (FV.int .i64 n40))]) [(Ob.g 70 [(AV.fz (FV.sl 9 es21)), (AV.fz (FV.int .i64 (IntKind.wrap .i64 (n42 + 1)))), (AV.fz (FV.int .i64 n43)), (AV.fz (FV.int .i64 n44)), (AV.fz (FV.int .i64 n45))])])) ∧ (((n38 == 7) = false) → ((((n38 == 6) = true) → ((∃ v10 : FV, ((FnX Tryz.prog 71 [(TV.one (AV.ptr 0 0 0 70)), (TV.one (AV.fz (FV.int .i64 n41))), (TV.one (AV.fz (FV.int .i64 (IntKind.wrap .i64 (d + 1)))))] [(Ob.g 70 [(AV.fz (FV.sl 9 es21)), (AV.fz (FV.int .i64 (IntKind.wrap .i64 (n42 + 1)))), (AV.fz (FV.int .i64 n43)), (AV.fz (FV.int .i64 n44)), (AV.fz (FV.int .i64 n45))])] v10) ∧ (RX v10 [(Ob.g 70 [AV.und, AV.und, AV.und, AV.und, AV.und])]))) ∨ (∃ es22 : LL, (∃ n46 : Int, (∃ n47 : Int, (∃ n48 : Int, (∃ n49 : Int, ((Fn Tryz.prog 71 [(TV.one (AV.ptr 0 0 0 70)), (TV.one (AV.fz (FV.int .i64 n41))), (TV.one (AV.fz (FV.int .i64 (IntKind.wrap .i64 (d + 1)))))] [(Ob.g 70 [(AV.fz (FV.sl 9 es21)), (AV.fz (FV.int .i64 (IntKind.wrap .i64 (n42 + 1)))), (AV.fz (FV.int .i64 n43)), (AV.fz (FV.int .i64 n44)), (AV.fz (FV.int .i64 n45))])] (TV.tup []) [(Ob.g 70 [(AV.fz (FV.sl 9 es22)), (AV.fz (FV.int .i64 n46)), (AV.fz (FV.int .i64 n47)), (AV.fz (FV.int .i64 n48)), (AV.fz (FV.int .i64 n49))])]) ∧ ((∃ v11 : FV, ((FnX Tryz.prog 69 [(TV.one (AV.ptr 0 0 0 70)), (TV.one (AV.fz (FV.int .i64 n41))), (TV.one (AV.fz (FV.int .i64 (IntKind.wrap .i64 (d + 1)))))] [(Ob.g 70 [(AV.fz (FV.sl 9 es22)), (AV.fz (FV.int .i64 n46)), (AV.fz (FV.int .i64 n47)), (AV.fz (FV.int .i64 n48)), (AV.fz (FV.int .i64 n49))])] v11) ∧ (RX v11 [(Ob.g 70 [AV.und, AV.und, AV.und, AV.und, AV.und])]))) ∨ (∃ es23 : LL, (∃ n50 : Int, (∃ n51 : Int, (∃ n52 : Int, (∃ n53 : Int, (∃ n54 : Int, (∃ s7 : ByteArray, (∃ b5 : Bool, (∃ es24 : LL, (∃ es25 : LL, (∃ n55 : Int, ((Fn Tryz.prog 69 [(TV.one (AV.ptr 0 0 0 70)), (TV.one (AV.fz (FV.int .i64 n41))), (TV.one (AV.fz (FV.int .i64 (IntKind.wrap .i64 (d + 1)))))] [(Ob.g 70 [(AV.fz (FV.sl 9 es22)), (AV.fz (FV.int .i64 n46)), (AV.fz (FV.int .i64 n47)), (AV.fz (FV.int .i64 n48)), (AV.fz (FV.int .i64 n49))])] (TV.agg [(AV.fz (FV.int .i64 n54)), (AV.fz (FV.str s7)), (AV.fz (FV.bool b5)), (AV.fz (FV.sl 1 es24)), (AV.fz (FV.sl 6 es25)), (AV.fz (FV.int .i64 n55))]) [(Ob.g 70 [(AV.fz (FV.sl 9 es23)), (AV.fz (FV.int .i64 n50)), (AV.fz (FV.int .i64 n51)), (AV.fz (FV.int .i64 n52)), (AV.fz (FV.int .i64 n53))])]) ∧ (R (TV.agg [(AV.fz (FV.int .i64 1)), (AV.fz (FV.str (ByteArray.mk #[]))), (AV.fz (FV.bool false)), (AV.ofl 1 1), (AV.ofl 6 2), (AV.fz (FV.int .i64 n41))]) [(Ob.g 70 [(AV.fz (FV.sl 9 es23)), (AV.fz (FV.int .i64 n50)), (AV.fz (FV.int .i64 n51)), (AV.fz (FV.int .i64 n52)), (AV.fz (FV.int .i64 n53))]), (Ob.f 0 1 ([] : LL)), (Ob.f 33 6 [[(FV.int .i64 4), (FV.str s5), (FV.bool false), (FV.sl 1 ([] : LL)), (FV.sl 6 ([] : LL)), (FV.int .i64 n41)], [(FV.int .i64 n54), (FV.str s7), (FV.bool b5), (FV.sl 1 es24), (FV.sl 6 es25), (FV.int .i64 n55)]])])))))))))))))))))))))) ∧ (((n38 == 6) = false) → ((((n38 == 3) = true) → ((∃ v12 : FV, ((FnX Tryz.prog 72 [(TV.one (AV.ptr 0 0 0 70)), (TV.one (AV.fz (FV.int .i64 (IntKind.wrap .i64 (d + 1))))), (TV.one (AV.fz (FV.bool true)))] [(Ob.g 70 [(AV.fz (FV.sl 9 es21)), (AV.fz (FV.int .i64 (IntKind.wrap .i64 (n42 + 1)))), (AV.fz (FV.int .i64 n43)), (AV.fz (FV.int .i64 n44)), (AV.fz (FV.int .i64 n45))])] v12) ∧ (RX v12 [(Ob.g 70 [AV.und, AV.und, AV.und, AV.und, AV.und])]))) ∨ ((∃ es26 : LL, (∃ n56 : Int, (∃ n57 : Int, (∃ n58 : Int, (∃ n59 : Int, (∃ es27 : LL, ((Fn Tryz.prog 72 [(TV.one (AV.ptr 0 0 0 70)), (TV.one (AV.fz (FV.int .i64 (IntKind.wrap .i64 (d + 1))))), (TV.one (AV.fz (FV.bool true)))] [(Ob.g 70 [(AV.fz (FV.sl 9 es21)), (AV.fz (FV.int .i64 (IntKind.wrap .i64 (n42 + 1)))), (AV.fz (FV.int .i64 n43)), (AV.fz (FV.int .i64 n44)), (AV.fz (FV.int .i64 n45))])] (TV.tup [(false, [(AV.ofl 6 1)]), (false, [(AV.fz FV.nilp)])]) [(Ob.g 70 [(AV.fz (FV.sl 9 es26)), (AV.fz (FV.int .i64 n56)), (AV.fz (FV.int .i64 n57)), (AV.fz (FV.int .i64 n58)), (AV.fz (FV.int .i64 n59))]), (Ob.f 0 6 es27)]) ∧ (R (TV.agg [(AV.fz (FV.int .i64 3)), (AV.fz (FV.str (ByteArray.mk #[]))), (AV.fz (FV.bool false)), (AV.ofl 1 1), (AV.ofl 6 2), (AV.fz (FV.int .i64 n41))]) [(Ob.g 70 [(AV.fz (FV.sl 9 es26)), (AV.fz (FV.int .i64 n56)), (AV.fz (FV.int .i64 n57)), (AV.fz (FV.int .i64 n58)), (AV.fz (FV.int .i64 n59))]), (Ob.f 0 1 ([] : LL)), (Ob.f 0 6 es27)])))))))) ∨ (∃ es28 : LL, (∃ n60 : Int, (∃ n61 : Int, (∃ n62 : Int, (∃ n63 : Int, (∃ es29 : LL, (∃ n64 : Int, (∃ s8 : ByteArray, (∃ b6 : Bool, (∃ es30 : LL, (∃ es31 : LL, (∃ n65 : Int, ((Fn Tryz.prog 72 [(TV.one (AV.ptr 0 0 0 70)), (TV.one (AV.fz (FV.int .i64 (IntKind.wrap .i64 (d + 1))))), (TV.one (AV.fz (FV.bool true)))] [(Ob.g 70 [(AV.fz (FV.sl 9 es21)), (AV.fz (FV.int .i64 (IntKind.wrap .i64 (n42 + 1)))), (AV.fz (FV.int .i64 n43)), (AV.fz (FV.int .i64 n44)), (AV.fz (FV.int .i64 n45))])] (TV.tup [(false, [(AV.ofl 6 1)]), (false, [(AV.ptr 2 0 0 0)])]) [(Ob.g 70 [(AV.fz (FV.sl 9 es28)), (AV.fz (FV.int .i64 n60)), (AV.fz (FV.int .i64 n61)), (AV.fz (FV.int .i64 n62)), (AV.fz (FV.int .i64 n63))]), (Ob.f 0 6 es29), (Ob.g 33 [(AV.fz (FV.int .i64 n64)), (AV.fz (FV.str s8)), (AV.fz (FV.bool b6)), (AV.fz (FV.sl 1 es30)), (AV.fz (FV.sl 6 es31)), (AV.fz (FV.int .i64 n65))])]) ∧ (R (TV.agg [(AV.fz (FV.int .i64 3)), (AV.fz (FV.str (ByteArray.mk #[]))), (AV.fz (FV.bool false)), (AV.ofl 1 1), (AV.ofl 6 2), (AV.fz (FV.int .i64 n41))]) [(Ob.g 70 [(AV.fz (FV.sl 9 es28)), (AV.fz (FV.int .i64 n60)), (AV.fz (FV.int .i64 n61)), (AV.fz (FV.int .i64 n62)), (AV.fz (FV.int .i64 n63))]), (Ob.f 0 1 ([] : LL)), (Ob.f 0 6 es29)]))))))))))))))))) ∧ (((n38 == 3) = false) → ((∃ v13 : FV, ((FnX Tryz.prog 72 [(TV.one (AV.ptr 0 0 0 70)), (TV.one (AV.fz (FV.int .i64 (IntKind.wrap .i64 (d + 1))))), (TV.one (AV.fz (FV.bool false)))] [(Ob.g 70 [(AV.fz (FV.sl 9 es21)), (AV.fz (FV.int .i64 (IntKind.wrap .i64 (n42 + 1)))), (AV.fz (FV.int .i64 n43)), (AV.fz (FV.int .i64 n44)), (AV.fz (FV.int .i64 n45))])] v13) ∧ (RX v13 [(Ob.g 70 [AV.und, AV.und, AV.und, AV.und, AV.und])]))) ∨ ((∃ es32 : LL, (∃ n66 : Int, (∃ n67 : Int, (∃ n68 : Int, (∃ n69 : Int, (∃ es33 : LL, ((Fn Tryz.prog 72 [(TV.one (AV.ptr 0 0 0 70)), (TV.one (AV.fz (FV.int .i64 (IntKind.wrap .i64 (d + 1))))), (TV.one (AV.fz (FV.bool false)))] [(Ob.g 70 [(AV.fz (FV.sl 9 es21)), (AV.fz (FV.int .i64 (IntKind.wrap .i64 (n42 + 1)))), (AV.fz (FV.int .i64 n43)), (AV.fz (FV.int .i64 n44)), (AV.fz (FV.int .i64 n45))])] (TV.tup [(false, [(AV.ofl 6 1)]), (false, [(AV.fz FV.nilp)])]) [(Ob.g 70 [(AV.fz (FV.sl 9 es32)), (AV.fz (FV.int .i64 n66)), (AV.fz (FV.int .i64 n67)), (AV.fz (FV.int .i64 n68)), (AV.fz (FV.int .i64 n69))]), (Ob.f 0 6 es33)]) ∧ (((true = true) → (R (TV.agg [(AV.fz (FV.int .i64 1)), (AV.fz (FV.str (ByteArray.mk #[]))), (AV.fz (FV.bool false)), (AV.ofl 1 1), (AV.ofl 6 2), (AV.fz (FV.int .i64 n41))]) [(Ob.g 70 [(AV.fz (FV.sl 9 es32)), (AV.fz (FV.int .i64 n66)), (AV.fz (FV.int .i64 n67)), (AV.fz (FV.int .i64 n68)), (AV.fz (FV.int .i64 n69))]), (Ob.f 0 1 ([] : LL)), (Ob.f 0 6 es33)])) ∧ ((true = false) → False))))))))) ∨ (∃ es34 : LL, (∃ n70 : Int, (∃ n71 : Int, (∃ n72 : Int, (∃ n73 : Int, (∃ es35 : LL, (∃ n74 : Int, (∃ s9 : ByteArray, (∃ b7 : Bool, (∃ es36 : LL, (∃ es37 : LL, (∃ n75 : Int, ((Fn Tryz.prog 72 [(TV.one (AV.ptr 0 0 0 70)), (TV.one (AV.fz (FV.int .i64 (IntKind.wrap .i64 (d + 1))))), (TV.one (AV.fz (FV.bool false)))] [(Ob.g 70 [(AV.fz (FV.sl 9 es21)), (AV.fz (FV.int .i64 (IntKind.wrap .i64 (n42 + 1)))), (AV.fz (FV.int .i64 n43)), (AV.fz (FV.int .i64 n44)), (AV.fz (FV.int .i64 n45))])] (TV.tup [(false, [(AV.ofl 6 1)]), (false, [(AV.ptr 2 0 0 0)])]) [(Ob.g 70 [(AV.fz (FV.sl 9 es34)), (AV.fz (FV.int .i64 n70)), (AV.fz (FV.int .i64 n71)), (AV.fz (FV.int .i64 n72)), (AV.fz (FV.int .i64 n73))]), (Ob.f 0 6 es35), (Ob.g 33 [(AV.fz (FV.int .i64 n74)), (AV.fz (FV.str s9)), (AV.fz (FV.bool b7)), (AV.fz (FV.sl 1 es36)), (AV.fz (FV.sl 6 es37)), (AV.fz (FV.int .i64 n75))])]) ∧ (((false = true) → (R (TV.agg [(AV.fz (FV.int .i64 1)), (AV.fz (FV.str (ByteArray.mk #[]))), (AV.fz (FV.bool false)), (AV.ofl 1 1), (AV.ofl 6 2), (AV.fz (FV.int .i64 n41))]) [(Ob.g 70 [(AV.fz (FV.sl 9 es34)), (AV.fz (FV.int .i64 n70)), (AV.fz (FV.int .i64 n71)), (AV.fz (FV.int .i64 n72)), (AV.fz (FV.int .i64 n73))]), (Ob.f 0 1 ([] : LL)), (Ob.f 0 6 es35)])) ∧ ((false = false) → ((((n74 == 1) = true) → (((((List.length es35) + (List.length es37)) * 88) ≤ 220000000000000) ∧ (R (TV.agg [(AV.fz (FV.int .i64 n74)), (AV.fz (FV.str (ByteArray.mk #[]))), (AV.fz (FV.bool false)), (AV.ofl 1 1), (AV.ofl 6 2), (AV.fz (FV.int .i64 n41))]) [(Ob.g 70 [(AV.fz (FV.sl 9 es34)), (AV.fz (FV.int .i64 n70)), (AV.fz (FV.int .i64 n71)), (AV.fz (FV.int .i64 n72)), (AV.fz (FV.int .i64 n73))]), (Ob.f 0 1 ([] : LL)), (Ob.f 0 6 (es35 ++ es37))]))) ∧ (((n74 == 1) = false) → ((((n74 == 2) = true) → (((((List.length es35) + (List.length es37)) * 88) ≤ 220000000000000) ∧ (R (TV.agg [(AV.fz (FV.int .i64 n74)), (AV.fz (FV.str (ByteArray.mk #[]))), (AV.fz (FV.bool false)), (AV.ofl 1 1), (AV.ofl 6 2), (AV.fz (FV.int .i64 n41))]) [(Ob.g 70 [(AV.fz (FV.sl 9 es34)), (AV.fz (FV.int .i64 n70)), (AV.fz (FV.int .i64 n71)), (AV.fz (FV.int .i64 n72)), (AV.fz (FV.int .i64 n73))]), (Ob.f 0 1 ([] : LL)), (Ob.f 0 6 (es35 ++ es37))]))) ∧ (((n74 == 2) = false) → (((((List.length es35) + (List.length [[(FV.int .i64 n74), (FV.str s9), (FV.bool b7), (FV.sl 1 es36), (FV.sl 6 es37), (FV.int .i64 n75)]])) * 88) ≤ 220000000000000) ∧ (R (TV.agg [(AV.fz (FV.int .i64 2)), (AV.fz (FV.str (ByteArray.mk #[]))), (AV.fz (FV.bool false)), (AV.ofl 1 1), (AV.ofl 6 2), (AV.fz (FV.int .i64 n41))]) [(Ob.g 70 [(AV.fz (FV.sl 9 es34)), (AV.fz (FV.int .i64 n70)), (AV.fz (FV.int .i64 n71)), (AV.fz (FV.int .i64 n72)), (AV.fz (FV.int .i64 n73))]), (Ob.f 0 1 ([] : LL)), (Ob.f 0 6 (es35 ++ [[(FV.int .i64 n74), (FV.str s9), (FV.bool b7), (FV.sl 1 es36), (FV.sl 6 es37), (FV.int .i64 n75)]]))])))))))))))))))))))))))))))))))))))))))))))))))))))
theorem read_reader_datumO_fc (d : Int) (ws : LL) (p : Int) (en : Int) (dp : Int) (nd : Int) {r : TV} {h : List Ob} (H : read_reader_datumO_H (fun r' h' => Cool 1 r' h' r h) (fun _ _ => False) d ws p en dp nd) : Fn Tryz.prog 42 [(TV.one (AV.ptr 0 0 0 70)), (TV.one (AV.fz (FV.int .i64 d)))] [(Ob.g 70 [(AV.fz (FV.sl 9 ws)), (AV.fz (FV.int .i64 p)), (AV.fz (FV.int .i64 en)), (AV.fz (FV.int .i64 dp)), (AV.fz (FV.int .i64 nd))])] r h :=
 Fn.by_trC (M := (modeX [] [(71, [(Sig.mk 1 [] [(OT.g 70 [(AT.k (CK.sl 9)), (AT.k (CK.int .i64)), (AT.k (CK.int .i64)), (AT.k (CK.int .i64)), (AT.k (CK.int .i64))])] 0)]), (69, [(Sig.mk 1 [(true, [(AT.k (CK.int .i64)), (AT.k CK.str), (AT.k CK.bool), (AT.k (CK.sl 1)), (AT.k (CK.sl 6)), (AT.k (CK.int .i64))])] [(OT.g 70 [(AT.k (CK.sl 9)), (AT.k (CK.int .i64)), (AT.k (CK.int .i64)), (AT.k (CK.int .i64)), (AT.k (CK.int .i64))])] 0)]), (72, [(Sig.mk 1 [(false, [(AT.a (AV.ofl 6 1))]), (false, [(AT.a (AV.fz FV.nilp))])] [(OT.g 70 [(AT.k (CK.sl 9)), (AT.k (CK.int .i64)), (AT.k (CK.int .i64)), (AT.k (CK.int .i64)), (AT.k (CK.int .i64))]), (OT.f 0 6)] 0), (Sig.mk 1 [(false, [(AT.a (AV.ofl 6 1))]), (false, [(AT.a (AV.ptr 2 0 0 0))])] [(OT.g 70 [(AT.k (CK.sl 9)), (AT.k (CK.int .i64)), (AT.k (CK.int .i64)), (AT.k (CK.int .i64)), (AT.k (CK.int .i64))]), (OT.f 0 6), (OT.g 33 [(AT.k (CK.int .i64)), (AT.k CK.str), (AT.k CK.bool), (AT.k (CK.sl 1)), (AT.k (CK.sl 6)), (AT.k (CK.int .i64))])] 0)])] [70, 71, 69, 72, 1000070] 1 (fun _ _ => False))) (lv := read_reader_datumO_lv) (own := (some 1)) (F := Tryz.f42) (by kernel_rfl) (by kernel_rfl) (by first | decide | simp) (fun _ _ h => h) (by kernel_rfl) H
theorem read_reader_datumO_fx (d : Int) (ws : LL) (p : Int) (en : Int) (dp : Int) (nd : Int) {x : FV} (H : read_reader_datumO_H (fun _ _ => False) (fun x' h' => x' = x ∧ h' = shH [(Ob.g 70 [(AV.fz (FV.sl 9 ws)), (AV.fz (FV.int .i64 p)), (AV.fz (FV.int .i64 en)), (AV.fz (FV.int .i64 dp)), (AV.fz (FV.int .i64 nd))])]) d ws p en dp nd) : FnX Tryz.prog 42 [(TV.one (AV.ptr 0 0 0 70)), (TV.one (AV.fz (FV.int .i64 d)))] [(Ob.g 70 [(AV.fz (FV.sl 9 ws)), (AV.fz (FV.int .i64 p)), (AV.fz (FV.int .i64 en)), (AV.fz (FV.int .i64 dp)), (AV.fz (FV.int .i64 nd))])] x :=
 FnX.by_tr (M := (modeX [] [(71, [(Sig.mk 1 [] [(OT.g 70 [(AT.k (CK.sl 9)), (AT.k (CK.int .i64)), (AT.k (CK.int .i64)), (AT.k (CK.int .i64)), (AT.k (CK.int .i64))])] 0)]), (69, [(Sig.mk 1 [(true, [(AT.k (CK.int .i64)), (AT.k CK.str), (AT.k CK.bool), (AT.k (CK.sl 1)), (AT.k (CK.sl 6)), (AT.k (CK.int .i64))])] [(OT.g 70 [(AT.k (CK.sl 9)), (AT.k (CK.int .i64)), (AT.k (CK.int .i64)), (AT.k (CK.int .i64)), (AT.k (CK.int .i64))])] 0)]), (72, [(Sig.mk 1 [(false, [(AT.a (AV.ofl 6 1))]), (false, [(AT.a (AV.fz FV.nilp))])] [(OT.g 70 [(AT.k (CK.sl 9)), (AT.k (CK.int .i64)), (AT.k (CK.int .i64)), (AT.k (CK.int .i64)), (AT.k (CK.int .i64))]), (OT.f 0 6)] 0), (Sig.mk 1 [(false, [(AT.a (AV.ofl 6 1))]), (false, [(AT.a (AV.ptr 2 0 0 0))])] [(OT.g 70 [(AT.k (CK.sl 9)), (AT.k (CK.int .i64)), (AT.k (CK.int .i64)), (AT.k (CK.int .i64)), (AT.k (CK.int .i64))]), (OT.f 0 6), (OT.g 33 [(AT.k (CK.int .i64)), (AT.k CK.str), (AT.k CK.bool), (AT.k (CK.sl 1)), (AT.k (CK.sl 6)), (AT.k (CK.int .i64))])] 0)])] [70, 71, 69, 72, 1000070] 1 (fun x' h' => x' = x ∧ h' = shH [(Ob.g 70 [(AV.fz (FV.sl 9 ws)), (AV.fz (FV.int .i64 p)), (AV.fz (FV.int .i64 en)), (AV.fz (FV.int .i64 dp)), (AV.fz (FV.int .i64 nd))])]))) (lv := read_reader_datumO_lv) (own := (some 1)) (F := Tryz.f42) (by kernel_rfl) (by kernel_rfl) (by first | decide | simp) (fun _ _ h => h) (by kernel_rfl) H
end
section
def read_reader_insideO_lv : List Nat → Keep := lvOf [([0, 1], ⟨199, 0, [], false, false⟩)]
def read_reader_insideO_S0 (d : Int) (v : Bool) (o : LL) (o1 : Int) (o2 : Int) (o3 : Int) (o4 : Int) (o5 : LL) : St := (St.mk [(TV.one (AV.ptr 0 0 0 70)), (TV.one (AV.fz (FV.int .i64 d))), (TV.one (AV.fz (FV.bool v))), TV.und, TV.und, TV.und, (TV.one (AV.ofl 6 1)), (TV.one (AV.fz FV.nilp)), TV.und, TV.und, TV.und, TV.und, TV.und, TV.und, TV.und, TV.und, TV.und, TV.und, TV.und, TV.und, TV.und, TV.und, TV.und, TV.und, TV.und, TV.und, TV.und, TV.und, TV.und, TV.und, TV.und, TV.und, TV.und, TV.und, TV.und, TV.und, TV.und, TV.und, TV.und, TV.und, TV.und, TV.und, TV.und, TV.und, TV.und, TV.und, TV.und, TV.und, TV.und, TV.und, TV.und, TV.und, TV.und, TV.und, TV.und, TV.und, TV.und, TV.und, TV.und, TV.und, TV.und, TV.und, TV.und, TV.und, TV.und, TV.und, TV.und, TV.und, TV.und, TV.und, TV.und, TV.und, TV.und, TV.und, TV.und, TV.und, TV.und, TV.und, TV.und, TV.und, TV.und, TV.und] [(Ob.g 70 [(AV.fz (FV.sl 9 o)), (AV.fz (FV.int .i64 o1)), (AV.fz (FV.int .i64 o2)), (AV.fz (FV.int .i64 o3)), (AV.fz (FV.int .i64 o4))]), (Ob.f 0 6 o5)])
def read_reader_insideO_L0 (R : TV → List Ob → Prop) (RX : FV → List Ob → Prop) (d : Int) (v : Bool) (o : LL) (o1 : Int) (o2 : Int) (o3 : Int) (o4 : Int) (o5 : LL) : Prop := LoopAt Tryz.prog (modeX [] [(41, [(Sig.mk 1 [(false, [(AT.k CK.bool)])] [(OT.g 70 [(AT.k (CK.sl 9)), (AT.k (CK.int .i64)), (AT.k (CK.int .i64)), (AT.k (CK.int .i64)), (AT.k (CK.int .i64))])] 0)]), (40, [(Sig.mk 1 [] [(OT.g 70 [(AT.k (CK.sl 9)), (AT.k (CK.int .i64)), (AT.k (CK.int .i64)), (AT.k (CK.int .i64)), (AT.k (CK.int .i64))])] 0)]), (69, [(Sig.mk 1 [(true, [(AT.k (CK.int .i64)), (AT.k CK.str), (AT.k CK.bool), (AT.k (CK.sl 1)), (AT.k (CK.sl 6)), (AT.k (CK.int .i64))])] [(OT.g 70 [(AT.k (CK.sl 9)), (AT.k (CK.int .i64)), (AT.k (CK.int .i64)), (AT.k (CK.int .i64)), (AT.k (CK.int .i64))])] 0)]), (42, [(Sig.mk 1 [(true, [(AT.k (CK.int .i64)), (AT.k CK.str), (AT.k CK.bool), (AT.k (CK.sl 1)), (AT.k (CK.sl 6)), (AT.k (CK.int .i64))])] [(OT.g 70 [(AT.k (CK.sl 9)), (AT.k (CK.int .i64)), (AT.k (CK.int .i64)), (AT.k (CK.int .i64)), (AT.k (CK.int .i64))])] 0)])] [70, 40, 69, 42, 1000070] 1 RX) read_reader_insideO_lv Tryz.f72 (some 1) R [1, 0] (read_reader_insideO_S0 d v o o1 o2 o3 o4 o5)
def read_reader_insideO_S1 (d : Int) (v : Bool) (es7 : LL) (n18 : Int) (n19 : Int) (n20 : Int) (n21 : Int) (o6 : LL) (n22 : Int) (s3 : ByteArray) (b3 : Bool) (es8 : LL) (es9 : LL) (n23 : Int) : St := (St.mk [(TV.one (AV.ptr 0 0 0 70)), (TV.one (AV.fz (FV.int .i64 d))), (TV.one (AV.fz (FV.bool v))), TV.und, TV.und, TV.und, (TV.one (AV.ofl 6 1)), (TV.one (AV.ptr 2 0 0 0)), TV.und, TV.und, TV.und, TV.und, TV.und, TV.und, TV.und, TV.und, TV.und, TV.und, TV.und, TV.und, TV.und, TV.und, TV.und, TV.und, TV.und, TV.und, TV.und, TV.und, TV.und, TV.und, TV.und, TV.und, TV.und, TV.und, TV.und, TV.und, TV.und, TV.und, TV.und, TV.und, TV.und, TV.und, TV.und, TV.und, TV.und, TV.und, TV.und, TV.und, TV.und, TV.und, TV.und, TV.und, TV.und, TV.und, TV.und, TV.und, TV.und, TV.und, TV.und, TV.und, TV.und, TV.und, TV.und, TV.und, TV.und, TV.und, TV.und, TV.und, TV.und, TV.und, TV.und, TV.und, TV.und, TV.und, TV.und, TV.und, TV.und, TV.und, TV.und, TV.und, TV.und, TV.und] [(Ob.g 70 [(AV.fz (FV.sl 9 es7)), (AV.fz (FV.int .i64 n18)), (AV.fz (FV.int .i64 n19)), (AV.fz (FV.int .i64 n20)), (AV.fz (FV.int .i64 n21))]), (Ob.f 0 6 o6), (Ob.g 33 [(AV.fz (FV.int .i64 n22)), (AV.fz (FV.str s3)), (AV.fz (FV.bool b3)), (AV.fz (FV.sl 1 es8)), (AV.fz (FV.sl 6 es9)), (AV.fz (FV.int .i64 n23))])])
def read_reader_insideO_L1 (R : TV → List Ob → Prop) (RX : FV → List Ob → Prop) (d : Int) (v : Bool) (es7 : LL) (n18 : Int) (n19 : Int) (n20 : Int) (n21 : Int) (o6 : LL) (n22 : Int) (s3 : ByteArray) (b3 : Bool) (es8 : LL) (es9 : LL) (n23 : Int) : Prop := LoopAt Tryz.prog (modeX [] [(41, [(Sig.mk 1 [(false, [(AT.k CK.bool)])] [(OT.g 70 [(AT.k (CK.sl 9)), (AT.k (CK.int .i64)), (AT.k (CK.int .i64)), (AT.k (CK.int .i64)), (AT.k (CK.int .i64))])] 0)]), (40, [(Sig.mk 1 [] [(OT.g 70 [(AT.k (CK.sl 9)), (AT.k (CK.int .i64)), (AT.k (CK.int .i64)), (AT.k (CK.int .i64)), (AT.k (CK.int .i64))])] 0)]), (69, [(Sig.mk 1 [(true, [(AT.k (CK.int .i64)), (AT.k CK.str), (AT.k CK.bool), (AT.k (CK.sl 1)), (AT.k (CK.sl 6)), (AT.k (CK.int .i64))])] [(OT.g 70 [(AT.k (CK.sl 9)), (AT.k (CK.int .i64)), (AT.k (CK.int .i64)), (AT.k (CK.int .i64)), (AT.k (CK.int .i64))])] 0)]), (42, [(Sig.mk 1 [(true, [(AT.k (CK.int .i64)), (AT.k CK.str), (AT.k CK.bool), (AT.k (CK.sl 1)), (AT.k (CK.sl 6)), (AT.k (CK.int .i64))])] [(OT.g 70 [(AT.k (CK.sl 9)), (AT.k (CK.int .i64)), (AT.k (CK.int .i64)), (AT.k (CK.int .i64)), (AT.k (CK.int .i64))])] 0)])] [70, 40, 69, 42, 1000070] 1 RX) read_reader_insideO_lv Tryz.f72 (some 1) R [1, 0] (read_reader_insideO_S1 d v es7 n18 n19 n20 n21 o6 n22 s3 b3 es8 es9 n23)
def read_reader_insideO_R0 (R : TV → List Ob → Prop) (RX : FV → List Ob → Prop) (d : Int) (v : Bool) (o : LL) (o1 : Int) (o2 : Int) (o3 : Int) (o4 : Int) (o5 : LL) : Prop :=
 ((∃ v29 : FV, ((FnX Tryz.prog 40 [(TV.one (AV.ptr 0 0 0 70)), (TV.one (AV.fz (FV.int .i64 d)))] [(Ob.g 70 [(AV.fz (FV.sl 9 o)), (AV.fz (FV.int .i64 o1)), (AV.fz (FV.int .i64 o2)), (AV.fz (FV.int .i64 o3)), (AV.fz (FV.int .i64 o4))])] v29) ∧ (RX v29 [(Ob.g 70 [AV.und, AV.und, AV.und, AV.und, AV.und])]))) ∨ (∃ es40 : LL, (∃ n96 : Int, (∃ n97 : Int, (∃ n98 : Int, (∃ n99 : Int, ((Fn Tryz.prog 40 [(TV.one (AV.ptr 0 0 0 70)), (TV.one (AV.fz (FV.int .i64 d)))] [(Ob.g 70 [(AV.fz (FV.sl 9 o)), (AV.fz (FV.int .i64 o1)), (AV.fz (FV.int .i64 o2)), (AV.fz (FV.int .i64 o3)), (AV.fz (FV.int .i64 o4))])] (TV.tup []) [(Ob.g 70 [(AV.fz (FV.sl 9 es40)), (AV.fz (FV.int .i64 n96)), (AV.fz (FV.int .i64 n97)), (AV.fz (FV.int .i64 n98)), (AV.fz (FV.int .i64 n99))])]) ∧ (∃ es41 : LL, (∃ n100 : Int, (∃ n101 : Int, (∃ n102 : Int, (∃ n103 : Int, (∃ b16 : Bool, ((Fn Tryz.prog 41 [(TV.one (AV.ptr 0 0 0 70))] [(Ob.g 70 [(AV.fz (FV.sl 9 es40)), (AV.fz (FV.int .i64 n96)), (AV.fz (FV.int .i64 n97)), (AV.fz (FV.int .i64 n98)), (AV.fz (FV.int .i64 n99))])] (TV.one (AV.fz (FV.bool b16))) [(Ob.g 70 [(AV.fz (FV.sl 9 es41)), (AV.fz (FV.int .i64 n100)), (AV.fz (FV.int .i64 n101)), (AV.fz (FV.int .i64 n102)), (AV.fz (FV.int .i64 n103))])]) ∧ ((((Bool.not b16) = true) → (∃ v30 : FV, ((FnX Tryz.prog 70 [(TV.one (AV.fz (FV.int .i64 n101))), (TV.one (AV.fz (FV.int .i64 3)))] [] v30) ∧ (RX v30 [(Ob.g 70 [AV.und, AV.und, AV.und, AV.und, AV.und])])))) ∧ (((Bool.not b16) = false) → (((0 : Int) ≤ n100) ∧ (∃ n104 : Int, (∃ s16 : ByteArray, (∃ n105 : Int, (∃ s17 : ByteArray, (∃ b17 : Bool, (∃ es42 : LL, (∃ es43 : LL, (∃ n106 : Int, (∃ n107 : Int, (((es41)[(Int.toNat n100)]? = (some [(FV.int .i64 n104), (FV.str s16), (FV.int .i64 n105), (FV.str s17), (FV.bool b17), (FV.sl 1 es42), (FV.sl 6 es43), (FV.int .i64 n106), (FV.int .i64 n107)])) ∧ ((((n104 == 2) = true) → (R (TV.tup [(false, [(AV.ofl 6 1)]), (false, [(AV.fz FV.nilp)])]) [(Ob.g 70 [(AV.fz (FV.sl 9 es41)), (AV.fz (FV.int .i64 (IntKind.wrap .i64 (n100 + 1)))), (AV.fz (FV.int .i64 n101)), (AV.fz (FV.int .i64 n102)), (AV.fz (FV.int .i64 n103))]), (Ob.f 0 6 o5)])) ∧ (((n104 == 2) = false) → ((((Bool.not true) = true) → (∃ v31 : FV, ((FnX Tryz.prog 70 [(TV.one (AV.fz (FV.int .i64 n107))), (TV.one (AV.fz (FV.int .i64 3)))] [] v31) ∧ (RX v31 [(Ob.g 70 [AV.und, AV.und, AV.und, AV.und, AV.und])])))) ∧ (((Bool.not true) = false) → ((((n104 != 4) = true) → ((∃ v32 : FV, ((FnX Tryz.prog 42 [(TV.one (AV.ptr 0 0 0 70)), (TV.one (AV.fz (FV.int .i64 d)))] [(Ob.g 70 [(AV.fz (FV.sl 9 es41)), (AV.fz (FV.int .i64 n100)), (AV.fz (FV.int .i64 n101)), (AV.fz (FV.int .i64 n102)), (AV.fz (FV.int .i64 n103))])] v32) ∧ (RX v32 [(Ob.g 70 [AV.und, AV.und, AV.und, AV.und, AV.und])]))) ∨ (∃ es44 : LL, (∃ n108 : Int, (∃ n109 : Int, (∃ n110 : Int, (∃ n111 : Int, (∃ n112 : Int, (∃ s18 : ByteArray, (∃ b18 : Bool, (∃ es45 : LL, (∃ es46 : LL, (∃ n113 : Int, ((Fn Tryz.prog 42 [(TV.one (AV.ptr 0 0 0 70)), (TV.one (AV.fz (FV.int .i64 d)))] [(Ob.g 70 [(AV.fz (FV.sl 9 es41)), (AV.fz (FV.int .i64 n100)), (AV.fz (FV.int .i64 n101)), (AV.fz (FV.int .i64 n102)), (AV.fz (FV.int .i64 n103))])] (TV.agg [(AV.fz (FV.int .i64 n112)), (AV.fz (FV.str s18)), (AV.fz (FV.bool b18)), (AV.fz (FV.sl 1 es45)), (AV.fz (FV.sl 6 es46)), (AV.fz (FV.int .i64 n113))]) [(Ob.g 70 [(AV.fz (FV.sl 9 es44)), (AV.fz (FV.int .i64 n108)), (AV.fz (FV.int .i64 n109)), (AV.fz (FV.int .i64 n110)), (AV.fz (FV.int .i64 n111))])]) ∧ (((((List.length o5) + (List.length [[(FV.int .i64 n112), (FV.str s18), (FV.bool b18), (FV.sl 1 es45), (FV.sl 6 es46), (FV.int .i64 n113)]])) * 88) ≤ 220000000000000) ∧ (read_reader_insideO_L0 R RX d v es44 n108 n109 n110 n111 (o5 ++ [[(FV.int .i64 n112), (FV.str s18), (FV.bool b18), (FV.sl 1 es45), (FV.sl 6 es46), (FV.int .i64 n113)]]))))))))))))))))) ∧ (((n104 != 4) = false) → (((v = true) → (∃ v33 : FV, ((FnX Tryz.prog 70 [(TV.one (AV.fz (FV.int .i64 n107))), (TV.one (AV.fz (FV.int .i64 3)))] [] v33) ∧ (RX v33 [(Ob.g 70 [AV.und, AV.und, AV.und, AV.und, AV.und])])))) ∧ ((v = false) → (((((((List.length o5) : Nat) : Int) == 0) = true) → (∃ v34 : FV, ((FnX Tryz.prog 70 [(TV.one (AV.fz (FV.int .i64 n107))), (TV.one (AV.fz (FV.int .i64 3)))] [] v34) ∧ (RX v34 [(Ob.g 70 [AV.und, AV.und, AV.und, AV.und, AV.und])])))) ∧ ((((((List.length o5) : Nat) : Int) == 0) = false) → ((∃ v35 : FV, ((FnX Tryz.prog 69 [(TV.one (AV.ptr 0 0 0 70)), (TV.one (AV.fz (FV.int .i64 n107))), (TV.one (AV.fz (FV.int .i64 d)))] [(Ob.g 70 [(AV.fz (FV.sl 9 es41)), (AV.fz (FV.int .i64 (IntKind.wrap .i64 (n100 + 1)))), (AV.fz (FV.int .i64 n101)), (AV.fz (FV.int .i64 n102)), (AV.fz (FV.int .i64 n103))])] v35) ∧ (RX v35 [(Ob.g 70 [AV.und, AV.und, AV.und, AV.und, AV.und])]))) ∨ (∃ es47 : LL, (∃ n114 : Int, (∃ n115 : Int, (∃ n116 : Int, (∃ n117 : Int, (∃ n118 : Int, (∃ s19 : ByteArray, (∃ b19 : Bool, (∃ es48 : LL, (∃ es49 : LL, (∃ n119 : Int, ((Fn Tryz.prog 69 [(TV.one (AV.ptr 0 0 0 70)), (TV.one (AV.fz (FV.int .i64 n107))), (TV.one (AV.fz (FV.int .i64 d)))] [(Ob.g 70 [(AV.fz (FV.sl 9 es41)), (AV.fz (FV.int .i64 (IntKind.wrap .i64 (n100 + 1)))), (AV.fz (FV.int .i64 n101)), (AV.fz (FV.int .i64 n102)), (AV.fz (FV.int .i64 n103))])] (TV.agg [(AV.fz (FV.int .i64 n118)), (AV.fz (FV.str s19)), (AV.fz (FV.bool b19)), (AV.fz (FV.sl 1 es48)), (AV.fz (FV.sl 6 es49)), (AV.fz (FV.int .i64 n119))]) [(Ob.g 70 [(AV.fz (FV.sl 9 es47)), (AV.fz (FV.int .i64 n114)), (AV.fz (FV.int .i64 n115)), (AV.fz (FV.int .i64 n116)), (AV.fz (FV.int .i64 n117))])]) ∧ (read_reader_insideO_L1 R RX d v es47 n114 n115 n116 n117 o5 n118 s19 b19 es48 es49 n119)))))))))))))))))))))))))))))))))))))))))))))))))))
theorem read_reader_insideO_l0 {R : TV → List Ob → Prop} {RX : FV → List Ob → Prop} {d : Int} {v : Bool} {o : LL} {o1 : Int} {o2 : Int} {o3 : Int} {o4 : Int} {o5 : LL} (h : read_reader_insideO_R0 R RX d v o o1 o2 o3 o4 o5) : read_reader_insideO_L0 R RX d v o o1 o2 o3 o4 o5 :=
 LoopAt.by_tr (by kernel_rfl) (by kernel_rfl) h
def read_reader_insideO_R1 (R : TV → List Ob → Prop) (RX : FV → List Ob → Prop) (d : Int) (v : Bool) (es7 : LL) (n18 : Int) (n19 : Int) (n20 : Int) (n21 : Int) (o6 : LL) (n22 : Int) (s3 : ByteArray) (b3 : Bool) (es8 : LL) (es9 : LL) (n23 : Int) : Prop :=
 ((∃ v29 : FV, ((FnX Tryz.prog 40 [(TV.one (AV.ptr 0 0 0 70)), (TV.one (AV.fz (FV.int .i64 d)))] [(Ob.g 70 [(AV.fz (FV.sl 9 es7)), (AV.fz (FV.int .i64 n18)), (AV.fz (FV.int .i64 n19)), (AV.fz (FV.int .i64 n20)), (AV.fz (FV.int .i64 n21))])] v29) ∧ (RX v29 [(Ob.g 70 [AV.und, AV.und, AV.und, AV.und, AV.und])]))) ∨ (∃ es40 : LL, (∃ n96 : Int, (∃ n97 : Int, (∃ n98 : Int, (∃ n99 : Int, ((Fn Tryz.prog 40 [(TV.one (AV.ptr 0 0 0 70)), (TV.one (AV.fz (FV.int .i64 d)))] [(Ob.g 70 [(AV.fz (FV.sl 9 es7)), (AV.fz (FV.int .i64 n18)), (AV.fz (FV.int .i64 n19)), (AV.fz (FV.int .i64 n20)), (AV.fz (FV.int .i64 n21))])] (TV.tup []) [(Ob.g 70 [(AV.fz (FV.sl 9 es40)), (AV.fz (FV.int .i64 n96)), (AV.fz (FV.int .i64 n97)), (AV.fz (FV.int .i64 n98)), (AV.fz (FV.int .i64 n99))])]) ∧ (∃ es41 : LL, (∃ n100 : Int, (∃ n101 : Int, (∃ n102 : Int, (∃ n103 : Int, (∃ b16 : Bool, ((Fn Tryz.prog 41 [(TV.one (AV.ptr 0 0 0 70))] [(Ob.g 70 [(AV.fz (FV.sl 9 es40)), (AV.fz (FV.int .i64 n96)), (AV.fz (FV.int .i64 n97)), (AV.fz (FV.int .i64 n98)), (AV.fz (FV.int .i64 n99))])] (TV.one (AV.fz (FV.bool b16))) [(Ob.g 70 [(AV.fz (FV.sl 9 es41)), (AV.fz (FV.int .i64 n100)), (AV.fz (FV.int .i64 n101)), (AV.fz (FV.int .i64 n102)), (AV.fz (FV.int .i64 n103))])]) ∧ ((((Bool.not b16) = true) → (∃ v30 : FV, ((FnX Tryz.prog 70 [(TV.one (AV.fz (FV.int .i64 n101))), (TV.one (AV.fz (FV.int .i64 3)))] [] v30) ∧ (RX v30 [(Ob.g 70 [AV.und, AV.und, AV.und, AV.und, AV.und])])))) ∧ (((Bool.not b16) = false) → (((0 : Int) ≤ n100) ∧ (∃ n104 : Int, (∃ s16 : ByteArray, (∃ n105 : Int, (∃ s17 : ByteArray, (∃ b17 : Bool, (∃ es42 : LL, (∃ es43 : LL, (∃ n106 : Int, (∃ n107 : Int, (((es41)[(Int.toNat n100)]? = (some [(FV.int .i64 n104), (FV.str s16), (FV.int .i64 n105), (FV.str s17), (FV.bool b17), (FV.sl 1 es42), (FV.sl 6 es43), (FV.int .i64 n106), (FV.int .i64 n107)])) ∧ ((((n104 == 2) = true) → (R (TV.tup [(false, [(AV.ofl 6 1)]), (false, [(AV.ptr 2 0 0 0)])]) [(Ob.g 70 [(AV.fz (FV.sl 9 es41)), (AV.fz (FV.int .i64 (IntKind.wrap .i64 (n100 + 1)))), (AV.fz (FV.int .i64 n101)), (AV.fz (FV.int .i64 n102)), (AV.fz (FV.int .i64 n103))]), (Ob.f 0 6 o6), (Ob.g 33 [(AV.fz (FV.int .i64 n22)), (AV.fz (FV.str s3)), (AV.fz (FV.bool b3)), (AV.fz (FV.sl 1 es8)), (AV.fz (FV.sl 6 es9)), (AV.fz (FV.int .i64 n23))])])) ∧ (((n104 == 2) = false) → ((((Bool.not false) = true) → (∃ v31 : FV, ((FnX Tryz.prog 70 [(TV.one (AV.fz (FV.int .i64 n107))), (TV.one (AV.fz (FV.int .i64 3)))] [] v31) ∧ (RX v31 [(Ob.g 70 [AV.und, AV.und, AV.und, AV.und, AV.und])])))) ∧ (((Bool.not false) = false) → ((((n104 != 4) = true) → ((∃ v32 : FV, ((FnX Tryz.prog 42 [(TV.one (AV.ptr 0 0 0 70)), (TV.one (AV.fz (FV.int .i64 d)))] [(Ob.g 70 [(AV.fz (FV.sl 9 es41)), (AV.fz (FV.int .i64 n100)), (AV.fz (FV.int .i64 n101)), (AV.fz (FV.int .i64 n102)), (AV.fz (FV.int .i64 n103))])] v32) ∧ (RX v32 [(Ob.g 70 [AV.und, AV.und, AV.und, AV.und, AV.und])]))) ∨ (∃ es44 : LL, (∃ n108 : Int, (∃ n109 : Int, (∃ n110 : Int, (∃ n111 : Int, (∃ n112 : Int, (∃ s18 : ByteArray, (∃ b18 : Bool, (∃ es45 : LL, (∃ es46 : LL, (∃ n113 : Int, ((Fn Tryz.prog 42 [(TV.one (AV.ptr 0 0 0 70)), (TV.one (AV.fz (FV.int .i64 d)))] [(Ob.g 70 [(AV.fz (FV.sl 9 es41)), (AV.fz (FV.int .i64 n100)), (AV.fz (FV.int .i64 n101)), (AV.fz (FV.int .i64 n102)), (AV.fz (FV.int .i64 n103))])] (TV.agg [(AV.fz (FV.int .i64 n112)), (AV.fz (FV.str s18)), (AV.fz (FV.bool b18)), (AV.fz (FV.sl 1 es45)), (AV.fz (FV.sl 6 es46)), (AV.fz (FV.int .i64 n113))]) [(Ob.g 70 [(AV.fz (FV.sl 9 es44)), (AV.fz (FV.int .i64 n108)), (AV.fz (FV.int .i64 n109)), (AV.fz (FV.int .i64 n110)), (AV.fz (FV.int .i64 n111))])]) ∧ (((((List.length o6) + (List.length [[(FV.int .i64 n112), (FV.str s18), (FV.bool b18), (FV.sl 1 es45), (FV.sl 6 es46), (FV.int .i64 n113)]])) * 88) ≤ 220000000000000) ∧ (read_reader_insideO_L1 R RX d v es44 n108 n109 n110 n111 (o6 ++ [[(FV.int .i64 n112), (FV.str s18), (FV.bool b18), (FV.sl 1 es45), (FV.sl 6 es46), (FV.int .i64 n113)]]) n22 s3 b3 es8 es9 n23)))))))))))))))) ∧ (((n104 != 4) = false) → (((v = true) → (∃ v33 : FV, ((FnX Tryz.prog 70 [(TV.one (AV.fz (FV.int .i64 n107))), (TV.one (AV.fz (FV.int .i64 3)))] [] v33) ∧ (RX v33 [(Ob.g 70 [AV.und, AV.und, AV.und, AV.und, AV.und])])))) ∧ ((v = false) → (((((((List.length o6) : Nat) : Int) == 0) = true) → (∃ v34 : FV, ((FnX Tryz.prog 70 [(TV.one (AV.fz (FV.int .i64 n107))), (TV.one (AV.fz (FV.int .i64 3)))] [] v34) ∧ (RX v34 [(Ob.g 70 [AV.und, AV.und, AV.und, AV.und, AV.und])])))) ∧ ((((((List.length o6) : Nat) : Int) == 0) = false) → ((∃ v35 : FV, ((FnX Tryz.prog 69 [(TV.one (AV.ptr 0 0 0 70)), (TV.one (AV.fz (FV.int .i64 n107))), (TV.one (AV.fz (FV.int .i64 d)))] [(Ob.g 70 [(AV.fz (FV.sl 9 es41)), (AV.fz (FV.int .i64 (IntKind.wrap .i64 (n100 + 1)))), (AV.fz (FV.int .i64 n101)), (AV.fz (FV.int .i64 n102)), (AV.fz (FV.int .i64 n103))])] v35) ∧ (RX v35 [(Ob.g 70 [AV.und, AV.und, AV.und, AV.und, AV.und])]))) ∨ (∃ es47 : LL, (∃ n114 : Int, (∃ n115 : Int, (∃ n116 : Int, (∃ n117 : Int, (∃ n118 : Int, (∃ s19 : ByteArray, (∃ b19 : Bool, (∃ es48 : LL, (∃ es49 : LL, (∃ n119 : Int, ((Fn Tryz.prog 69 [(TV.one (AV.ptr 0 0 0 70)), (TV.one (AV.fz (FV.int .i64 n107))), (TV.one (AV.fz (FV.int .i64 d)))] [(Ob.g 70 [(AV.fz (FV.sl 9 es41)), (AV.fz (FV.int .i64 (IntKind.wrap .i64 (n100 + 1)))), (AV.fz (FV.int .i64 n101)), (AV.fz (FV.int .i64 n102)), (AV.fz (FV.int .i64 n103))])] (TV.agg [(AV.fz (FV.int .i64 n118)), (AV.fz (FV.str s19)), (AV.fz (FV.bool b19)), (AV.fz (FV.sl 1 es48)), (AV.fz (FV.sl 6 es49)), (AV.fz (FV.int .i64 n119))]) [(Ob.g 70 [(AV.fz (FV.sl 9 es47)), (AV.fz (FV.int .i64 n114)), (AV.fz (FV.int .i64 n115)), (AV.fz (FV.int .i64 n116)), (AV.fz (FV.int .i64 n117))])]) ∧ (read_reader_insideO_L1 R RX d v es47 n114 n115 n116 n117 o6 n118 s19 b19 es48 es49 n119)))))))))))))))))))))))))))))))))))))))))))))))))))
theorem read_reader_insideO_l1 {R : TV → List Ob → Prop} {RX : FV → List Ob → Prop} {d : Int} {v : Bool} {es7 : LL} {n18 : Int} {n19 : Int} {n20 : Int} {n21 : Int} {o6 : LL} {n22 : Int} {s3 : ByteArray} {b3 : Bool} {es8 : LL} {es9 : LL} {n23 : Int} (h : read_reader_insideO_R1 R RX d v es7 n18 n19 n20 n21 o6 n22 s3 b3 es8 es9 n23) : read_reader_insideO_L1 R RX d v es7 n18 n19 n20 n21 o6 n22 s3 b3 es8 es9 n23 :=
 LoopAt.by_tr (by kernel_rfl) (by kernel_rfl) h
def read_reader_insideO_H (R : TV → List Ob → Prop) (RX : FV → List Ob → Prop) (d : Int) (v : Bool) (ws : LL) (p : Int) (en : Int) (dp : Int) (nd : Int) : Prop :=
 (read_reader_insideO_L0 R RX d v ws p en dp nd ([] : List (List FV)))
theorem read_reader_insideO_fn (d : Int) (v : Bool) (ws : LL) (p : Int) (en : Int) (dp : Int) (nd : Int) {r : TV} {h : List Ob} (H : read_reader_insideO_H (fun r' h' => r' = r ∧ Wk h' h) (fun _ _ => False) d v ws p en dp nd) : Fn Tryz.prog 72 [(TV.one (AV.ptr 0 0 0 70)), (TV.one (AV.fz (FV.int .i64 d))), (TV.one (AV.fz (FV.bool v)))] [(Ob.g 70 [(AV.fz (FV.sl 9 ws)), (AV.fz (FV.int .i64 p)), (AV.fz (FV.int .i64 en)), (AV.fz (FV.int .i64 dp)), (AV.fz (FV.int .i64 nd))])] r h :=
 Fn.by_trW (M := (modeX [] [(41, [(Sig.mk 1 [(false, [(AT.k CK.bool)])] [(OT.g 70 [(AT.k (CK.sl 9)), (AT.k (CK.int .i64)), (AT.k (CK.int .i64)), (AT.k (CK.int .i64)), (AT.k (CK.int .i64))])] 0)]), (40, [(Sig.mk 1 [] [(OT.g 70 [(AT.k (CK.sl 9)), (AT.k (CK.int .i64)), (AT.k (CK.int .i64)), (AT.k (CK.int .i64)), (AT.k (CK.int .i64))])] 0)]), (69, [(Sig.mk 1 [(true, [(AT.k (CK.int .i64)), (AT.k CK.str), (AT.k CK.bool), (AT.k (CK.sl 1)), (AT.k (CK.sl 6)), (AT.k (CK.int .i64))])] [(OT.g 70 [(AT.k (CK.sl 9)), (AT.k (CK.int .i64)), (AT.k (CK.int .i64)), (AT.k (CK.int .i64)), (AT.k (CK.int .i64))])] 0)]), (42, [(Sig.mk 1 [(true, [(AT.k (CK.int .i64)), (AT.k CK.str), (AT.k CK.bool), (AT.k (CK.sl 1)), (AT.k (CK.sl 6)), (AT.k (CK.int .i64))])] [(OT.g 70 [(AT.k (CK.sl 9)), (AT.k (CK.int .i64)), (AT.k (CK.int .i64)), (AT.k (CK.int .i64)), (AT.k (CK.int .i64))])] 0)])] [70, 40, 69, 42, 1000070] 1 (fun _ _ => False))) (lv := read_reader_insideO_lv) (own := (some 1)) (F := Tryz.f72) (by kernel_rfl) (by kernel_rfl) (by first | decide | simp) (fun _ _ h => h) (by kernel_rfl) H
theorem read_reader_insideO_fx (d : Int) (v : Bool) (ws : LL) (p : Int) (en : Int) (dp : Int) (nd : Int) {x : FV} (H : read_reader_insideO_H (fun _ _ => False) (fun x' h' => x' = x ∧ h' = shH [(Ob.g 70 [(AV.fz (FV.sl 9 ws)), (AV.fz (FV.int .i64 p)), (AV.fz (FV.int .i64 en)), (AV.fz (FV.int .i64 dp)), (AV.fz (FV.int .i64 nd))])]) d v ws p en dp nd) : FnX Tryz.prog 72 [(TV.one (AV.ptr 0 0 0 70)), (TV.one (AV.fz (FV.int .i64 d))), (TV.one (AV.fz (FV.bool v)))] [(Ob.g 70 [(AV.fz (FV.sl 9 ws)), (AV.fz (FV.int .i64 p)), (AV.fz (FV.int .i64 en)), (AV.fz (FV.int .i64 dp)), (AV.fz (FV.int .i64 nd))])] x :=
 FnX.by_tr (M := (modeX [] [(41, [(Sig.mk 1 [(false, [(AT.k CK.bool)])] [(OT.g 70 [(AT.k (CK.sl 9)), (AT.k (CK.int .i64)), (AT.k (CK.int .i64)), (AT.k (CK.int .i64)), (AT.k (CK.int .i64))])] 0)]), (40, [(Sig.mk 1 [] [(OT.g 70 [(AT.k (CK.sl 9)), (AT.k (CK.int .i64)), (AT.k (CK.int .i64)), (AT.k (CK.int .i64)), (AT.k (CK.int .i64))])] 0)]), (69, [(Sig.mk 1 [(true, [(AT.k (CK.int .i64)), (AT.k CK.str), (AT.k CK.bool), (AT.k (CK.sl 1)), (AT.k (CK.sl 6)), (AT.k (CK.int .i64))])] [(OT.g 70 [(AT.k (CK.sl 9)), (AT.k (CK.int .i64)), (AT.k (CK.int .i64)), (AT.k (CK.int .i64)), (AT.k (CK.int .i64))])] 0)]), (42, [(Sig.mk 1 [(true, [(AT.k (CK.int .i64)), (AT.k CK.str), (AT.k CK.bool), (AT.k (CK.sl 1)), (AT.k (CK.sl 6)), (AT.k (CK.int .i64))])] [(OT.g 70 [(AT.k (CK.sl 9)), (AT.k (CK.int .i64)), (AT.k (CK.int .i64)), (AT.k (CK.int .i64)), (AT.k (CK.int .i64))])] 0)])] [70, 40, 69, 42, 1000070] 1 (fun x' h' => x' = x ∧ h' = shH [(Ob.g 70 [(AV.fz (FV.sl 9 ws)), (AV.fz (FV.int .i64 p)), (AV.fz (FV.int .i64 en)), (AV.fz (FV.int .i64 dp)), (AV.fz (FV.int .i64 nd))])]))) (lv := read_reader_insideO_lv) (own := (some 1)) (F := Tryz.f72) (by kernel_rfl) (by kernel_rfl) (by first | decide | simp) (fun _ _ h => h) (by kernel_rfl) H
end
section
abbrev flt (a e : Int) : FV := .ifv 66 true [.int .i64 a, .int .i64 e]
abbrev rdP : TV := .one (.ptr 0 0 0 70)
def tkR (ws : List Tok) : List (List FV) := ws.map Tok.row
abbrev rdO (ws : List Tok) (p : Nat) (en dp nd : Int) : Ob := .g 70 [.fz (.sl 9 (tkR ws)), .fz (.int .i64 ((p : Nat) : Int)), .fz (.int .i64 en), .fz (.int .i64 dp), .fz (.int .i64 nd)]
abbrev rdU : Ob := .g 70 [.und, .und, .und, .und, .und]
theorem tkR_len (ws : List Tok) : (tkR ws).length = ws.length := by simp [tkR]
theorem tkR_get {ws r : List Tok} {t : Tok} {p : Nat} (h : ws.drop p = t :: r) : (tkR ws)[(Int.toNat ((p : Nat) : Int))]? = some t.row ∧ p < ws.length ∧ r = ws.drop (p + 1) := by
 have hp : p < ws.length := by
  rcases Nat.lt_or_ge p ws.length with h' | h'
  ·exact h'
  ·rw [List.drop_of_length_le h'] at h; cases h
 rw [List.drop_eq_getElem_cons hp] at h
 injection h with h1 h2
 refine ⟨?_, hp, h2.symm⟩
 rw [Int.toNat_natCast]
 simp only [tkR, List.getElem?_map, List.getElem?_eq_getElem hp, Option.map_some, h1]
theorem fail_ok (a e : Int) : FnX Tryz.prog 70 [fzI .i64 a, fzI .i64 e] [] (flt a e) := by
 refine read_fail_fx _ _ ?_
 unfold read_fail_H
 exact ⟨rfl, rfl⟩
theorem rdMore_ok (ws : List Tok) (p : Nat) (en dp nd : Int) : Fn Tryz.prog 41 [rdP] [rdO ws p en dp nd] (fzB (decide (p < ws.length))) [rdO ws p en dp nd] := by
 refine read_reader_moreO_fn _ _ _ _ _ ?_
 unfold read_reader_moreO_H
 rw [tkR_len]
 refine ⟨?_, Wk.refl _⟩
 congr 3
 exact decide_eq_decide.2 (by omega)
theorem begin_t (ws : List Tok) (p : Nat) (en dp nd a d : Int) (h0 : 0 ≤ nd) (h1 : nd ≤ 8192) (h : ¬ begE dp d nd ≠ 0) : Fn Tryz.prog 71 [rdP, fzI .i64 a, fzI .i64 d] [rdO ws p en dp nd] (.tup []) [rdO ws p en dp (nd + 1)] := by
 obtain ⟨b1, b2⟩ := begE_zero h
 refine read_reader_beginO_fn _ _ _ _ _ _ _ ?_
 unfold read_reader_beginO_H
 have e : IntKind.wrap .i64 (nd + 1) = nd + 1 := w64 (by omega) (by omega)
 rw [e, dec_t, dec_f, dec_t, dec_f]
 exact ⟨fun h => by omega, fun _ => ⟨fun h => by omega, fun _ => ⟨rfl, Wk.refl _⟩⟩⟩
theorem begin_x (ws : List Tok) (p : Nat) (en dp nd a d : Int) (h0 : 0 ≤ nd) (h1 : nd ≤ 8192) (h : begE dp d nd ≠ 0) : FnX Tryz.prog 71 [rdP, fzI .i64 a, fzI .i64 d] [rdO ws p en dp nd] (flt a (begE dp d nd)) := by
 refine read_reader_beginO_fx _ _ _ _ _ _ _ ?_
 unfold read_reader_beginO_H
 have e : IntKind.wrap .i64 (nd + 1) = nd + 1 := w64 (by omega) (by omega)
 rw [e, dec_t, dec_f, dec_t, dec_f]
 unfold begE at h ⊢
 by_cases c1 : dp < d
 ·rw [if_pos c1]
  exact ⟨fun _ => ⟨_, fail_ok _ _, rfl, rfl⟩, fun h => absurd c1 h⟩
 ·rw [if_neg c1] at h ⊢
  by_cases c2 : 8192 < nd + 1
  ·rw [if_pos c2]
   exact ⟨fun h => absurd h c1, fun _ => ⟨fun _ => ⟨_, fail_ok _ _, rfl, rfl⟩, fun h => absurd c2 h⟩⟩
  ·rw [if_neg c2] at h; exact absurd rfl h
def Con (ws : List Tok) (en dp : Int) (f : FuncId) (args : List TV) (p : Nat) (nd : Int) {α : Type} (res : RdR α) (k : α → TV × List Ob) : Prop :=
 match res with
 | .ok v n nd' => Fn Tryz.prog f args [rdO ws p en dp nd] (k v).1 (rdO ws (p + n) en dp nd' :: (k v).2)
 | .bad a e => FnX Tryz.prog f args [rdO ws p en dp nd] (flt a e)
def Outc (ws : List Tok) (en dp : Int) (p : Nat) (R : TV → List Ob → Prop) (RX : FV → List Ob → Prop) {α : Type} (res : RdR α) (k : α → TV × List Ob) : Prop :=
 match res with
 | .ok v n nd' => R (k v).1 (rdO ws (p + n) en dp nd' :: (k v).2)
 | .bad a e => RX (flt a e) [rdU]
theorem Con.of {ws : List Tok} {en dp : Int} {f : FuncId} {args : List TV} {p : Nat} {nd : Int} {α : Type} {res : RdR α} {k : α → TV × List Ob} (H : (TV → List Ob → Prop) → (FV → List Ob → Prop) → Prop)
  (hfn : ∀ r h, H (fun r' h' => r' = r ∧ Wk h' h) (fun _ _ => False) → Fn Tryz.prog f args [rdO ws p en dp nd] r h)
  (hfx : ∀ x, H (fun _ _ => False) (fun x' h' => x' = x ∧ h' = shH [rdO ws p en dp nd]) → FnX Tryz.prog f args [rdO ws p en dp nd] x)
  (hH : ∀ R RX, Outc ws en dp p R RX res k → H R RX) : Con ws en dp f args p nd res k := by
 cases res with
 | ok v n nd' => exact hfn _ _ (hH _ _ ⟨rfl, Wk.refl _⟩)
 | bad a e => exact hfx _ (hH _ _ ⟨rfl, rfl⟩)
def kS : Unit → TV × List Ob := fun _ => (.tup [], [])
def kD : Dt → TV × List Ob := fun x => (fzD x, [])
def kI : List Dt × Option Dt → TV × List Ob := fun w =>
 match w.2 with
 | none => (.tup [(false, [.ofl 6 1]), (false, [.fz .nilp])], [.f 0 6 (Dt.rows w.1)])
 | some x => (.tup [(false, [.ofl 6 1]), (false, [.ptr 2 0 0 0])], [.f 0 6 (Dt.rows w.1), .g 33 (x.row.map .fz)])
structure RdW (ws : List Tok) (en dp : Int) (p : Nat) : Prop where
 sl : ∀ (d nd : Int) (R : TV → List Ob → Prop) (RX : FV → List Ob → Prop), 0 ≤ d → d ≤ dp + 1 → 0 ≤ nd → nd ≤ 8192 → Outc ws en dp p R RX (skipR dp en (ws.drop p) d nd) kS → read_reader_skipsO_L0 R RX d (tkR ws) p en dp nd
 d : p < ws.length → ∀ (d nd : Int), 0 ≤ d → d ≤ dp + 1 → 0 ≤ nd → nd ≤ 8192 → Con ws en dp 42 [rdP, fzI .i64 d] p nd (datR dp en (ws.drop p) d nd) kD
 b : ∀ (a d nd : Int), 0 ≤ d → d ≤ dp + 1 → 0 ≤ nd → nd ≤ 8192 → Con ws en dp 69 [rdP, fzI .i64 a, fzI .i64 d] p nd (behR dp en (ws.drop p) d nd) kD
 il : ∀ (d : Int) (v : Bool) (acc : List Dt) (tail : Option Dt) (nd : Int) (R : TV → List Ob → Prop) (RX : FV → List Ob → Prop), 0 ≤ d → d ≤ dp + 1 → 0 ≤ nd → nd ≤ 8192 → acc.length ≤ p → Outc ws en dp p R RX (insR dp en (ws.drop p) d v acc tail nd) kI →
  match tail with
  | none => read_reader_insideO_L0 R RX d v (tkR ws) p en dp nd (Dt.rows acc)
  | some (.mk k t n l xs a) => read_reader_insideO_L1 R RX d v (tkR ws) p en dp nd (Dt.rows acc) k t n (ints .u32 l) (Dt.rows xs) a
variable {ws : List Tok} {en dp : Int} {p : Nat}
theorem RdW.s (h : RdW ws en dp p) (d nd : Int) (h0 : 0 ≤ d) (h1 : d ≤ dp + 1) (h2 : 0 ≤ nd) (h3 : nd ≤ 8192) : Con ws en dp 40 [rdP, fzI .i64 d] p nd (skipR dp en (ws.drop p) d nd) kS :=
 Con.of (fun R RX => read_reader_skipsO_H R RX d (tkR ws) p en dp nd) (fun r h H => read_reader_skipsO_fn _ _ _ _ _ _ H) (fun x H => read_reader_skipsO_fx _ _ _ _ _ _ H) (fun R RX ho => h.sl d nd R RX h0 h1 h2 h3 ho)
theorem RdW.i (h : RdW ws en dp p) (d : Int) (v : Bool) (nd : Int) (h0 : 0 ≤ d) (h1 : d ≤ dp + 1) (h2 : 0 ≤ nd) (h3 : nd ≤ 8192) : Con ws en dp 72 [rdP, fzI .i64 d, fzB v] p nd (insR dp en (ws.drop p) d v [] none nd) kI := by
 refine Con.of (fun R RX => read_reader_insideO_H R RX d v (tkR ws) p en dp nd) (fun r h H => read_reader_insideO_fn _ _ _ _ _ _ _ H) (fun x H => read_reader_insideO_fx _ _ _ _ _ _ _ H) (fun R RX ho => ?_)
 have := h.il d v [] none nd R RX h0 h1 h2 h3 (by simp) ho
 unfold read_reader_insideO_H
 simpa only [Dt.rows] using this
end
end Go.Proofs.YtenkkekooimpjaaGreatDoor.Ev
end
