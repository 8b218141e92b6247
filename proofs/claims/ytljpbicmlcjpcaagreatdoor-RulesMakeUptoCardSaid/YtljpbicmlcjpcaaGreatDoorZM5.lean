/-
 Part of a claim: definitions and lemmas that its theorem leans on, packed by wip/tools/pack.py.
-/
import Derived.Test.YtljpbicmlcjpcaaGreatDoorZM4
set_option linter.unusedVariables false
set_option linter.unusedSimpArgs false
section
set_option linter.unusedVariables false
set_option maxRecDepth 100000
namespace Go.Proofs.YtljpbicmlcjpcaaGreatDoor.Ev
open Go
section
def ref09_SoundWrap_lv : List Nat → Keep := lvOf []
def ref09_SoundWrap_H (R : TV → List Ob → Prop) (marks : List (List FV)) (subs : List (List FV)) : Prop :=
 ((((decide ((((List.length marks) : Nat) : Int) ≤ 256)) = true) → ((((decide ((((List.length subs) : Nat) : Int) ≤ 256)) = true) → (∃ b1 : Bool, ((Fn Tryz.prog 100 [(TV.one (AV.fz (FV.sl 1 marks))), (TV.one (AV.fz (FV.sl 1 subs)))] [] (TV.one (AV.fz (FV.bool b1))) []) ∧ (R (TV.one (AV.fz (FV.bool b1))) [])))) ∧ (((decide ((((List.length subs) : Nat) : Int) ≤ 256)) = false) → (R (TV.one (AV.fz (FV.bool false))) [])))) ∧ (((decide ((((List.length marks) : Nat) : Int) ≤ 256)) = false) → (R (TV.one (AV.fz (FV.bool false))) [])))
theorem ref09_SoundWrap_fn (marks : LL) (subs : LL) {r : TV} {h : List Ob} (H : ref09_SoundWrap_H (fun r' h' => r' = r ∧ h' = h) marks subs) : Fn Tryz.prog 62 [(TV.one (AV.fz (FV.sl 1 marks))), (TV.one (AV.fz (FV.sl 1 subs)))] [] r h :=
 Fn.by_tr (M := (modeOf [] [])) (lv := ref09_SoundWrap_lv) (own := none) (F := Tryz.f62) (by kernel_rfl) (by kernel_rfl) (by first | decide | simp) (fun _ _ h => h) (by kernel_rfl) H
def ref09_soundWrap_lv : List Nat → Keep := lvOf [([0, 1, 0, 1, 1], ⟨99, 0, [], false, false⟩), ([0, 1, 0, 1, 1, 1], ⟨161, 0, [], false, false⟩)]
def ref09_soundWrap_S0 (marks : LL) (subs : LL) (n2 : Int) (i : Int) : St := (St.mk [(TV.one (AV.fz (FV.sl 1 marks))), (TV.one (AV.fz (FV.sl 1 subs))), TV.und, TV.und, TV.und, (TV.one (AV.fz (FV.int .i64 n2))), (TV.one (AV.fz (FV.int .i64 i))), TV.und, TV.und, TV.und, TV.und, TV.und, TV.und, TV.und, TV.und, TV.und, TV.und, TV.und, TV.und, TV.und, TV.und, TV.und, TV.und, TV.und, TV.und, TV.und, TV.und, TV.und, TV.und, TV.und, TV.und, TV.und, TV.und, TV.und, TV.und, TV.und, TV.und, TV.und, TV.und, TV.und, TV.und, TV.und, TV.und, TV.und, TV.und, TV.und, TV.und, TV.und, TV.und, TV.und, TV.und, TV.und, TV.und] [])
def ref09_soundWrap_L0 (R : TV → List Ob → Prop) (marks : LL) (subs : LL) (n2 : Int) (i : Int) : Prop := LoopAt Tryz.prog (modeOf [] []) ref09_soundWrap_lv Tryz.f100 none R [1, 1, 0, 1, 0] (ref09_soundWrap_S0 marks subs n2 i)
def ref09_soundWrap_S1 (marks : LL) (n9 : Int) (i1 : Int) : St := (St.mk [(TV.one (AV.fz (FV.sl 1 marks))), TV.und, TV.und, TV.und, TV.und, (TV.one (AV.fz (FV.int .i64 n9))), TV.und, (TV.one (AV.fz (FV.int .i64 i1))), TV.und, TV.und, TV.und, TV.und, TV.und, TV.und, TV.und, TV.und, TV.und, TV.und, TV.und, TV.und, TV.und, TV.und, TV.und, TV.und, TV.und, TV.und, TV.und, TV.und, TV.und, TV.und, TV.und, TV.und, TV.und, TV.und, TV.und, TV.und, TV.und, TV.und, TV.und, TV.und, TV.und, TV.und, TV.und, TV.und, TV.und, TV.und, TV.und, TV.und, TV.und, TV.und, TV.und, TV.und, TV.und] [])
def ref09_soundWrap_L1 (R : TV → List Ob → Prop) (marks : LL) (n9 : Int) (i1 : Int) : Prop := LoopAt Tryz.prog (modeOf [] []) ref09_soundWrap_lv Tryz.f100 none R [1, 1, 1, 0, 1, 0] (ref09_soundWrap_S1 marks n9 i1)
def ref09_soundWrap_R0 (R : TV → List Ob → Prop) (marks : List (List FV)) (subs : List (List FV)) (n2 : Int) (i : Int) : Prop :=
 ((((decide (i < (((List.length subs) : Nat) : Int))) = true) → (((0 : Int) ≤ i) ∧ (∃ n14 : Int, (((subs)[(Int.toNat i)]? = (some [(FV.int .i64 n14)])) ∧ ((((decide (n14 < 0)) = true) → (R (TV.one (AV.fz (FV.bool false))) [])) ∧ (((decide (n14 < 0)) = false) → (((0 : Int) ≤ i) ∧ (∃ n15 : Int, (((subs)[(Int.toNat i)]? = (some [(FV.int .i64 n15)])) ∧ ((((n15 == 0) = true) → (ref09_soundWrap_L0 R marks subs (IntKind.wrap .i64 (n2 + 1)) (IntKind.wrap .i64 (i + 1)))) ∧ (((n15 == 0) = false) → (ref09_soundWrap_L0 R marks subs n2 (IntKind.wrap .i64 (i + 1)))))))))))))) ∧ (((decide (i < (((List.length subs) : Nat) : Int))) = false) → (ref09_soundWrap_L1 R marks n2 0)))
theorem ref09_soundWrap_l0 {R : TV → List Ob → Prop} {marks : LL} {subs : LL} {n2 : Int} {i : Int} (h : ref09_soundWrap_R0 R marks subs n2 i) : ref09_soundWrap_L0 R marks subs n2 i :=
 LoopAt.by_tr (by kernel_rfl) (by kernel_rfl) h
def ref09_soundWrap_R1 (R : TV → List Ob → Prop) (marks : List (List FV)) (n9 : Int) (i1 : Int) : Prop :=
 ((((decide (i1 < (((List.length marks) : Nat) : Int))) = true) → (((0 : Int) ≤ i1) ∧ (∃ n14 : Int, (((marks)[(Int.toNat i1)]? = (some [(FV.int .i64 n14)])) ∧ ((((decide (n14 < 1)) = true) → ((((i1 == 0) = true) → (((0 : Int) ≤ i1) ∧ (∃ n15 : Int, (((marks)[(Int.toNat i1)]? = (some [(FV.int .i64 n15)])) ∧ ((((Bool.not (n15 == (-1))) = true) → (R (TV.one (AV.fz (FV.bool false))) [])) ∧ (((Bool.not (n15 == (-1))) = false) → (ref09_soundWrap_L1 R marks n9 (IntKind.wrap .i64 (i1 + 1))))))))) ∧ (((i1 == 0) = false) → (R (TV.one (AV.fz (FV.bool false))) [])))) ∧ (((decide (n14 < 1)) = false) → (ref09_soundWrap_L1 R marks n9 (IntKind.wrap .i64 (i1 + 1))))))))) ∧ (((decide (i1 < (((List.length marks) : Nat) : Int))) = false) → (R (TV.one (AV.fz (FV.bool (n9 == (((List.length marks) : Nat) : Int))))) [])))
theorem ref09_soundWrap_l1 {R : TV → List Ob → Prop} {marks : LL} {n9 : Int} {i1 : Int} (h : ref09_soundWrap_R1 R marks n9 i1) : ref09_soundWrap_L1 R marks n9 i1 :=
 LoopAt.by_tr (by kernel_rfl) (by kernel_rfl) h
def ref09_soundWrap_H (R : TV → List Ob → Prop) (marks : List (List FV)) (subs : List (List FV)) : Prop :=
 (ref09_soundWrap_L0 R marks subs 0 0)
theorem ref09_soundWrap_fn (marks : LL) (subs : LL) {r : TV} {h : List Ob} (H : ref09_soundWrap_H (fun r' h' => r' = r ∧ h' = h) marks subs) : Fn Tryz.prog 100 [(TV.one (AV.fz (FV.sl 1 marks))), (TV.one (AV.fz (FV.sl 1 subs)))] [] r h :=
 Fn.by_tr (M := (modeOf [] [])) (lv := ref09_soundWrap_lv) (own := none) (F := Tryz.f100) (by kernel_rfl) (by kernel_rfl) (by first | decide | simp) (fun _ _ h => h) (by kernel_rfl) H
def ref09_Exact_lv : List Nat → Keep := lvOf [([0, 1, 0, 1, 1], ⟨44, 0, [], false, false⟩)]
def ref09_Exact_S0 (a0 : Int) (a1 : ByteArray) (a2 : Bool) (a3 : LL) (a4 : LL) (a5 : Int) (a6 : LL) (a7 : LL) (b0 : Int) (b1 : ByteArray) (b2 : Bool) (b3 : LL) (b4 : LL) (b5 : Int) (b6 : LL) (b7 : LL) (i : Int) : St := (St.mk [TV.und, TV.und, (TV.one (AV.ptr 0 0 0 0)), (TV.one (AV.ptr 1 0 0 0)), TV.und, (TV.one (AV.fz (FV.int .i64 i))), TV.und, TV.und, TV.und, TV.und, TV.und, TV.und, TV.und, TV.und, TV.und, TV.und, TV.und, TV.und, TV.und, TV.und, TV.und, TV.und, TV.und, TV.und, TV.und, TV.und, TV.und, TV.und, TV.und, TV.und, TV.und, TV.und, TV.und, TV.und, TV.und, TV.und, TV.und, TV.und, TV.und, TV.und, TV.und, TV.und, TV.und, TV.und, TV.und, TV.und, TV.und, TV.und, TV.und, TV.und, TV.und, TV.und, TV.und, TV.und, TV.und, TV.und, TV.und, TV.und, TV.und, TV.und, TV.und, TV.und, TV.und, TV.und, TV.und, TV.und, TV.und, TV.und, TV.und, TV.und] [(Ob.g 28 [(AV.fz (FV.int .i64 a0)), (AV.fz (FV.str a1)), (AV.fz (FV.bool a2)), (AV.fz (FV.sl 1 a3)), (AV.fz (FV.sl 8 a4)), (AV.fz (FV.int .i64 a5)), (AV.fz (FV.sl 1 a6)), (AV.fz (FV.sl 1 a7))]), (Ob.g 28 [(AV.fz (FV.int .i64 b0)), (AV.fz (FV.str b1)), (AV.fz (FV.bool b2)), (AV.fz (FV.sl 1 b3)), (AV.fz (FV.sl 8 b4)), (AV.fz (FV.int .i64 b5)), (AV.fz (FV.sl 1 b6)), (AV.fz (FV.sl 1 b7))])])
def ref09_Exact_L0 (R : TV → List Ob → Prop) (a0 : Int) (a1 : ByteArray) (a2 : Bool) (a3 : LL) (a4 : LL) (a5 : Int) (a6 : LL) (a7 : LL) (b0 : Int) (b1 : ByteArray) (b2 : Bool) (b3 : LL) (b4 : LL) (b5 : Int) (b6 : LL) (b7 : LL) (i : Int) : Prop := LoopAt Tryz.prog (modeOf [] []) ref09_Exact_lv Tryz.f20 none R [1, 1, 0, 1, 0] (ref09_Exact_S0 a0 a1 a2 a3 a4 a5 a6 a7 b0 b1 b2 b3 b4 b5 b6 b7 i)
def ref09_Exact_R0 (R : TV → List Ob → Prop) (a0 : Int) (a1 : ByteArray) (a2 : Bool) (a3 : LL) (a4 : LL) (a5 : Int) (a6 : LL) (a7 : LL) (b0 : Int) (b1 : ByteArray) (b2 : Bool) (b3 : LL) (b4 : LL) (b5 : Int) (b6 : LL) (b7 : LL) (i : Int) : Prop :=
 ((((decide (i < (((List.length a4) : Nat) : Int))) = true) → (((0 : Int) ≤ i) ∧ (∃ n8 : Int, (∃ s4 : ByteArray, (∃ b9 : Bool, (∃ es16 : LL, (∃ es17 : LL, (∃ n9 : Int, (∃ es18 : LL, (∃ es19 : LL, (((a4)[(Int.toNat i)]? = (some [(FV.int .i64 n8), (FV.str s4), (FV.bool b9), (FV.sl 1 es16), (FV.sl 8 es17), (FV.int .i64 n9), (FV.sl 1 es18), (FV.sl 1 es19)])) ∧ (((0 : Int) ≤ i) ∧ (∃ n10 : Int, (∃ s5 : ByteArray, (∃ b10 : Bool, (∃ es20 : LL, (∃ es21 : LL, (∃ n11 : Int, (∃ es22 : LL, (∃ es23 : LL, (((b4)[(Int.toNat i)]? = (some [(FV.int .i64 n10), (FV.str s5), (FV.bool b10), (FV.sl 1 es20), (FV.sl 8 es21), (FV.int .i64 n11), (FV.sl 1 es22), (FV.sl 1 es23)])) ∧ (∃ b11 : Bool, ((Fn Tryz.prog 20 [(TV.agg [(AV.fz (FV.int .i64 n8)), (AV.fz (FV.str s4)), (AV.fz (FV.bool b9)), (AV.fz (FV.sl 1 es16)), (AV.fz (FV.sl 8 es17)), (AV.fz (FV.int .i64 n9)), (AV.fz (FV.sl 1 es18)), (AV.fz (FV.sl 1 es19))]), (TV.agg [(AV.fz (FV.int .i64 n10)), (AV.fz (FV.str s5)), (AV.fz (FV.bool b10)), (AV.fz (FV.sl 1 es20)), (AV.fz (FV.sl 8 es21)), (AV.fz (FV.int .i64 n11)), (AV.fz (FV.sl 1 es22)), (AV.fz (FV.sl 1 es23))])] [] (TV.one (AV.fz (FV.bool b11))) []) ∧ ((((Bool.not b11) = true) → (R (TV.one (AV.fz (FV.bool false))) [])) ∧ (((Bool.not b11) = false) → (ref09_Exact_L0 R a0 a1 a2 a3 a4 a5 a6 a7 b0 b1 b2 b3 b4 b5 b6 b7 (IntKind.wrap .i64 (i + 1)))))))))))))))))))))))))))) ∧ (((decide (i < (((List.length a4) : Nat) : Int))) = false) → (R (TV.one (AV.fz (FV.bool true))) [])))
theorem ref09_Exact_l0 {R : TV → List Ob → Prop} {a0 : Int} {a1 : ByteArray} {a2 : Bool} {a3 : LL} {a4 : LL} {a5 : Int} {a6 : LL} {a7 : LL} {b0 : Int} {b1 : ByteArray} {b2 : Bool} {b3 : LL} {b4 : LL} {b5 : Int} {b6 : LL} {b7 : LL} {i : Int} (h : ref09_Exact_R0 R a0 a1 a2 a3 a4 a5 a6 a7 b0 b1 b2 b3 b4 b5 b6 b7 i) : ref09_Exact_L0 R a0 a1 a2 a3 a4 a5 a6 a7 b0 b1 b2 b3 b4 b5 b6 b7 i :=
 LoopAt.by_tr (by kernel_rfl) (by kernel_rfl) h
def ref09_Exact_H (R : TV → List Ob → Prop) (a0 : Int) (a1 : ByteArray) (a2 : Bool) (a3 : LL) (a4 : LL) (a5 : Int) (a6 : LL) (a7 : LL) (b0 : Int) (b1 : ByteArray) (b2 : Bool) (b3 : LL) (b4 : LL) (b5 : Int) (b6 : LL) (b7 : LL) : Prop :=
 ((((a0 != b0) = true) → (R (TV.one (AV.fz (FV.bool false))) [])) ∧ (((a0 != b0) = false) → ((((Bool.not ((ByteArray.toList a1) == (ByteArray.toList b1))) = true) → (R (TV.one (AV.fz (FV.bool false))) [])) ∧ (((Bool.not ((ByteArray.toList a1) == (ByteArray.toList b1))) = false) → (∃ b9 : Bool, ((Fn Tryz.prog 64 [(TV.agg [(AV.fz (FV.bool a2)), (AV.fz (FV.sl 1 a3))]), (TV.agg [(AV.fz (FV.bool b2)), (AV.fz (FV.sl 1 b3))])] [] (TV.one (AV.fz (FV.bool b9))) []) ∧ ((((Bool.not b9) = true) → (R (TV.one (AV.fz (FV.bool false))) [])) ∧ (((Bool.not b9) = false) → (∃ b10 : Bool, ((Fn Tryz.prog 65 [(TV.one (AV.fz (FV.sl 1 a6))), (TV.one (AV.fz (FV.sl 1 b6)))] [] (TV.one (AV.fz (FV.bool b10))) []) ∧ ((((Bool.not b10) = true) → (R (TV.one (AV.fz (FV.bool false))) [])) ∧ (((Bool.not b10) = false) → (∃ b11 : Bool, ((Fn Tryz.prog 65 [(TV.one (AV.fz (FV.sl 1 a7))), (TV.one (AV.fz (FV.sl 1 b7)))] [] (TV.one (AV.fz (FV.bool b11))) []) ∧ ((((Bool.not b11) = true) → (R (TV.one (AV.fz (FV.bool false))) [])) ∧ (((Bool.not b11) = false) → (((((((List.length a4) : Nat) : Int) != (((List.length b4) : Nat) : Int)) = true) → (R (TV.one (AV.fz (FV.bool false))) [])) ∧ ((((((List.length a4) : Nat) : Int) != (((List.length b4) : Nat) : Int)) = false) → (ref09_Exact_L0 R a0 a1 a2 a3 a4 a5 a6 a7 b0 b1 b2 b3 b4 b5 b6 b7 0)))))))))))))))))))
theorem ref09_Exact_fn (a0 : Int) (a1 : ByteArray) (a2 : Bool) (a3 : LL) (a4 : LL) (a5 : Int) (a6 : LL) (a7 : LL) (b0 : Int) (b1 : ByteArray) (b2 : Bool) (b3 : LL) (b4 : LL) (b5 : Int) (b6 : LL) (b7 : LL) {r : TV} {h : List Ob} (H : ref09_Exact_H (fun r' h' => r' = r ∧ h' = h) a0 a1 a2 a3 a4 a5 a6 a7 b0 b1 b2 b3 b4 b5 b6 b7) : Fn Tryz.prog 20 [(TV.agg [(AV.fz (FV.int .i64 a0)), (AV.fz (FV.str a1)), (AV.fz (FV.bool a2)), (AV.fz (FV.sl 1 a3)), (AV.fz (FV.sl 8 a4)), (AV.fz (FV.int .i64 a5)), (AV.fz (FV.sl 1 a6)), (AV.fz (FV.sl 1 a7))]), (TV.agg [(AV.fz (FV.int .i64 b0)), (AV.fz (FV.str b1)), (AV.fz (FV.bool b2)), (AV.fz (FV.sl 1 b3)), (AV.fz (FV.sl 8 b4)), (AV.fz (FV.int .i64 b5)), (AV.fz (FV.sl 1 b6)), (AV.fz (FV.sl 1 b7))])] [] r h :=
 Fn.by_tr (M := (modeOf [] [])) (lv := ref09_Exact_lv) (own := none) (F := Tryz.f20) (by kernel_rfl) (by kernel_rfl) (by first | decide | simp) (fun _ _ h => h) (by kernel_rfl) H
def ref09_Own_lv : List Nat → Keep := lvOf [([0, 1, 0, 1, 1, 1, 1, 1], ⟨30, 0, [], false, false⟩)]
def ref09_Own_S0 (x0 : Int) (x1 : ByteArray) (x2 : Bool) (x3 : LL) (x4 : LL) (x5 : Int) (x6 : LL) (x7 : LL) (i : Int) (o : LL) : St := (St.mk [TV.und, (TV.one (AV.ptr 0 0 0 0)), (TV.one (AV.ptr 1 0 0 0)), (TV.one (AV.ofl 8 2)), (TV.one (AV.fz (FV.int .i64 i))), TV.und, TV.und, TV.und, TV.und, TV.und, TV.und, TV.und, TV.und, TV.und, TV.und, TV.und, TV.und, TV.und, TV.und, TV.und, TV.und, TV.und, TV.und, TV.und, TV.und, TV.und, TV.und, TV.und, TV.und, TV.und, TV.und, TV.und, TV.und, TV.und, TV.und, TV.und, TV.und, TV.und, TV.und, TV.und, TV.und] [(Ob.g 28 [(AV.fz (FV.int .i64 x0)), (AV.fz (FV.str x1)), (AV.fz (FV.bool x2)), (AV.ofl 1 3), (AV.fz (FV.sl 8 x4)), (AV.fz (FV.int .i64 x5)), (AV.ofl 1 4), (AV.ofl 1 5)]), (Ob.g 28 [(AV.fz (FV.int .i64 0)), (AV.fz (FV.str (ByteArray.mk #[]))), (AV.fz (FV.bool false)), (AV.ofl 1 6), (AV.ofl 8 7), (AV.fz (FV.int .i64 0)), (AV.ofl 1 8), (AV.ofl 1 9)]), (Ob.f 0 8 o), (Ob.f 89 1 (([] : LL) ++ x3)), (Ob.f 3 1 (([] : LL) ++ x6)), (Ob.f 3 1 (([] : LL) ++ x7)), (Ob.f 0 1 ([] : LL)), (Ob.f 0 8 ([] : LL)), (Ob.f 0 1 ([] : LL)), (Ob.f 0 1 ([] : LL))])
def ref09_Own_L0 (R : TV → List Ob → Prop) (x0 : Int) (x1 : ByteArray) (x2 : Bool) (x3 : LL) (x4 : LL) (x5 : Int) (x6 : LL) (x7 : LL) (i : Int) (o : LL) : Prop := LoopAt Tryz.prog (modeOf [] []) ref09_Own_lv Tryz.f18 none R [1, 1, 1, 1, 1, 0, 1, 0] (ref09_Own_S0 x0 x1 x2 x3 x4 x5 x6 x7 i o)
def ref09_Own_R0 (R : TV → List Ob → Prop) (x0 : Int) (x1 : ByteArray) (x2 : Bool) (x3 : LL) (x4 : LL) (x5 : Int) (x6 : LL) (x7 : LL) (i : Int) (o : LL) : Prop :=
 ((((decide (i < (((List.length x4) : Nat) : Int))) = true) → (((0 : Int) ≤ i) ∧ (∃ n8 : Int, (∃ s4 : ByteArray, (∃ b4 : Bool, (∃ es16 : LL, (∃ es17 : LL, (∃ n9 : Int, (∃ es18 : LL, (∃ es19 : LL, (((x4)[(Int.toNat i)]? = (some [(FV.int .i64 n8), (FV.str s4), (FV.bool b4), (FV.sl 1 es16), (FV.sl 8 es17), (FV.int .i64 n9), (FV.sl 1 es18), (FV.sl 1 es19)])) ∧ (∃ n10 : Int, (∃ s5 : ByteArray, (∃ b5 : Bool, (∃ es20 : LL, (∃ es21 : LL, (∃ n11 : Int, (∃ es22 : LL, (∃ es23 : LL, ((Fn Tryz.prog 18 [(TV.agg [(AV.fz (FV.int .i64 n8)), (AV.fz (FV.str s4)), (AV.fz (FV.bool b4)), (AV.fz (FV.sl 1 es16)), (AV.fz (FV.sl 8 es17)), (AV.fz (FV.int .i64 n9)), (AV.fz (FV.sl 1 es18)), (AV.fz (FV.sl 1 es19))])] [] (TV.agg [(AV.fz (FV.int .i64 n10)), (AV.fz (FV.str s5)), (AV.fz (FV.bool b5)), (AV.fz (FV.sl 1 es20)), (AV.fz (FV.sl 8 es21)), (AV.fz (FV.int .i64 n11)), (AV.fz (FV.sl 1 es22)), (AV.fz (FV.sl 1 es23))]) []) ∧ (((((List.length o) + (List.length [[(FV.int .i64 n10), (FV.str s5), (FV.bool b5), (FV.sl 1 es20), (FV.sl 8 es21), (FV.int .i64 n11), (FV.sl 1 es22), (FV.sl 1 es23)]])) * 136) ≤ 220000000000000) ∧ (ref09_Own_L0 R x0 x1 x2 x3 x4 x5 x6 x7 (IntKind.wrap .i64 (i + 1)) (o ++ [[(FV.int .i64 n10), (FV.str s5), (FV.bool b5), (FV.sl 1 es20), (FV.sl 8 es21), (FV.int .i64 n11), (FV.sl 1 es22), (FV.sl 1 es23)]]))))))))))))))))))))))) ∧ (((decide (i < (((List.length x4) : Nat) : Int))) = false) → (R (TV.agg [(AV.fz (FV.int .i64 x0)), (AV.fz (FV.str x1)), (AV.fz (FV.bool x2)), (AV.fz (FV.sl 1 (([] : LL) ++ x3))), (AV.fz (FV.sl 8 o)), (AV.fz (FV.int .i64 x5)), (AV.fz (FV.sl 1 (([] : LL) ++ x6))), (AV.fz (FV.sl 1 (([] : LL) ++ x7)))]) [])))
theorem ref09_Own_l0 {R : TV → List Ob → Prop} {x0 : Int} {x1 : ByteArray} {x2 : Bool} {x3 : LL} {x4 : LL} {x5 : Int} {x6 : LL} {x7 : LL} {i : Int} {o : LL} (h : ref09_Own_R0 R x0 x1 x2 x3 x4 x5 x6 x7 i o) : ref09_Own_L0 R x0 x1 x2 x3 x4 x5 x6 x7 i o :=
 LoopAt.by_tr (by kernel_rfl) (by kernel_rfl) h
def ref09_Own_H (R : TV → List Ob → Prop) (x0 : Int) (x1 : ByteArray) (x2 : Bool) (x3 : LL) (x4 : LL) (x5 : Int) (x6 : LL) (x7 : LL) : Prop :=
 (((((List.length ([] : List (List FV))) + (List.length x3)) * 4) ≤ 220000000000000) ∧ (((((List.length ([] : List (List FV))) + (List.length x6)) * 8) ≤ 220000000000000) ∧ (((((List.length ([] : List (List FV))) + (List.length x7)) * 8) ≤ 220000000000000) ∧ (ref09_Own_L0 R x0 x1 x2 x3 x4 x5 x6 x7 0 ([] : List (List FV))))))
theorem ref09_Own_fn (x0 : Int) (x1 : ByteArray) (x2 : Bool) (x3 : LL) (x4 : LL) (x5 : Int) (x6 : LL) (x7 : LL) {r : TV} {h : List Ob} (H : ref09_Own_H (fun r' h' => r' = r ∧ h' = h) x0 x1 x2 x3 x4 x5 x6 x7) : Fn Tryz.prog 18 [(TV.agg [(AV.fz (FV.int .i64 x0)), (AV.fz (FV.str x1)), (AV.fz (FV.bool x2)), (AV.fz (FV.sl 1 x3)), (AV.fz (FV.sl 8 x4)), (AV.fz (FV.int .i64 x5)), (AV.fz (FV.sl 1 x6)), (AV.fz (FV.sl 1 x7))])] [] r h :=
 Fn.by_tr (M := (modeOf [] [])) (lv := ref09_Own_lv) (own := none) (F := Tryz.f18) (by kernel_rfl) (by kernel_rfl) (by first | decide | simp) (fun _ _ h => h) (by kernel_rfl) H
def ref09_Sound_lv : List Nat → Keep := lvOf []
def ref09_Sound_H (R : TV → List Ob → Prop) (x0 : Int) (x1 : ByteArray) (x2 : Bool) (x3 : LL) (x4 : LL) (x5 : Int) (x6 : LL) (x7 : LL) : Prop :=
 (∃ n4 : Int, (∃ s2 : ByteArray, (∃ b6 : Bool, (∃ es6 : LL, (∃ es7 : LL, (∃ n5 : Int, (∃ b7 : Bool, ((Fn Tryz.prog 68 [(TV.agg [(AV.fz (FV.int .i64 x0)), (AV.fz (FV.str x1)), (AV.fz (FV.bool x2)), (AV.fz (FV.sl 1 x3)), (AV.fz (FV.sl 8 x4)), (AV.fz (FV.int .i64 x5)), (AV.fz (FV.sl 1 x6)), (AV.fz (FV.sl 1 x7))]), (TV.one (AV.fz (FV.int .i64 64)))] [] (TV.tup [(true, [(AV.fz (FV.int .i64 n4)), (AV.fz (FV.str s2)), (AV.fz (FV.bool b6)), (AV.fz (FV.sl 1 es6)), (AV.fz (FV.sl 6 es7)), (AV.fz (FV.int .i64 n5))]), (false, [(AV.fz (FV.bool b7))])]) []) ∧ ((((Bool.not b7) = true) → (R (TV.one (AV.fz (FV.bool false))) [])) ∧ (((Bool.not b7) = false) → (∃ b8 : Bool, ((Fn Tryz.prog 69 [(TV.agg [(AV.fz (FV.int .i64 n4)), (AV.fz (FV.str s2)), (AV.fz (FV.bool b6)), (AV.fz (FV.sl 1 es6)), (AV.fz (FV.sl 6 es7)), (AV.fz (FV.int .i64 n5))])] [] (TV.one (AV.fz (FV.bool b8))) []) ∧ ((((Bool.not b8) = true) → (R (TV.one (AV.fz (FV.bool false))) [])) ∧ (((Bool.not b8) = false) → (∃ b9 : Bool, ((Fn Tryz.prog 70 [(TV.agg [(AV.fz (FV.int .i64 n4)), (AV.fz (FV.str s2)), (AV.fz (FV.bool b6)), (AV.fz (FV.sl 1 es6)), (AV.fz (FV.sl 6 es7)), (AV.fz (FV.int .i64 n5))])] [] (TV.one (AV.fz (FV.bool b9))) []) ∧ (((b9 = true) → (R (TV.one (AV.fz (FV.bool false))) [])) ∧ ((b9 = false) → (∃ n6 : Int, (∃ s3 : ByteArray, (∃ b10 : Bool, (∃ es8 : LL, (∃ es9 : LL, (∃ n7 : Int, (∃ es10 : LL, (∃ es11 : LL, (∃ b11 : Bool, ((Fn Tryz.prog 71 [(TV.agg [(AV.fz (FV.int .i64 x0)), (AV.fz (FV.str x1)), (AV.fz (FV.bool x2)), (AV.fz (FV.sl 1 x3)), (AV.fz (FV.sl 8 x4)), (AV.fz (FV.int .i64 x5)), (AV.fz (FV.sl 1 x6)), (AV.fz (FV.sl 1 x7))]), (TV.one (AV.fz (FV.sl 1 ([] : LL)))), (TV.one (AV.fz (FV.sl 1 ([] : LL))))] [] (TV.tup [(true, [(AV.fz (FV.int .i64 n6)), (AV.fz (FV.str s3)), (AV.fz (FV.bool b10)), (AV.fz (FV.sl 1 es8)), (AV.fz (FV.sl 8 es9)), (AV.fz (FV.int .i64 n7)), (AV.fz (FV.sl 1 es10)), (AV.fz (FV.sl 1 es11))]), (false, [(AV.fz (FV.bool b11))])]) []) ∧ (R (TV.one (AV.fz (FV.bool b11))) [])))))))))))))))))))))))))))))
theorem ref09_Sound_fn (x0 : Int) (x1 : ByteArray) (x2 : Bool) (x3 : LL) (x4 : LL) (x5 : Int) (x6 : LL) (x7 : LL) {r : TV} {h : List Ob} (H : ref09_Sound_H (fun r' h' => r' = r ∧ h' = h) x0 x1 x2 x3 x4 x5 x6 x7) : Fn Tryz.prog 23 [(TV.agg [(AV.fz (FV.int .i64 x0)), (AV.fz (FV.str x1)), (AV.fz (FV.bool x2)), (AV.fz (FV.sl 1 x3)), (AV.fz (FV.sl 8 x4)), (AV.fz (FV.int .i64 x5)), (AV.fz (FV.sl 1 x6)), (AV.fz (FV.sl 1 x7))])] [] r h :=
 Fn.by_tr (M := (modeOf [] [])) (lv := ref09_Sound_lv) (own := none) (F := Tryz.f23) (by kernel_rfl) (by kernel_rfl) (by first | decide | simp) (fun _ _ h => h) (by kernel_rfl) H
def ref09_bare_lv : List Nat → Keep := lvOf [([0, 1, 0, 1, 1, 1], ⟨214, 0, [], false, false⟩)]
def ref09_bare_S0 (x0 : Int) (x1 : ByteArray) (x2 : Bool) (x3 : LL) (x4 : LL) (x5 : Int) (x6 : LL) (x7 : LL) (room : Int) (i : Int) (o : LL) : St := (St.mk [TV.und, (TV.one (AV.fz (FV.int .i64 room))), (TV.one (AV.ptr 0 0 0 0)), TV.und, (TV.one (AV.ptr 1 0 0 0)), TV.und, (TV.one (AV.ptr 2 0 0 0)), (TV.one (AV.fz (FV.int .i64 i))), TV.und, TV.und, TV.und, TV.und, TV.und, TV.und, TV.und, TV.und, TV.und, TV.und, TV.und, TV.und, TV.und, TV.und, TV.und, TV.und, TV.und, TV.und, TV.und, TV.und, TV.und, TV.und, TV.und, TV.und, TV.und, TV.und, TV.und, TV.und, TV.und, TV.und, TV.und, TV.und, TV.und, TV.und, TV.und, TV.und, TV.und, TV.und, TV.und, TV.und, TV.und, TV.und] [(Ob.g 28 [(AV.fz (FV.int .i64 x0)), (AV.fz (FV.str x1)), (AV.fz (FV.bool x2)), (AV.fz (FV.sl 1 x3)), (AV.fz (FV.sl 8 x4)), (AV.fz (FV.int .i64 x5)), (AV.fz (FV.sl 1 x6)), (AV.fz (FV.sl 1 x7))]), (Ob.g 44 [(AV.fz (FV.int .i64 0)), (AV.fz (FV.str (ByteArray.mk #[]))), (AV.fz (FV.bool false)), (AV.ofl 1 3), (AV.ofl 6 4), (AV.fz (FV.int .i64 0))]), (Ob.g 44 [(AV.fz (FV.int .i64 x0)), (AV.fz (FV.str x1)), (AV.fz (FV.bool x2)), (AV.fz (FV.sl 1 x3)), (AV.ofl 6 5), (AV.fz (FV.int .i64 x5))]), (Ob.f 0 1 ([] : LL)), (Ob.f 0 6 ([] : LL)), (Ob.f 0 6 o)])
def ref09_bare_L0 (R : TV → List Ob → Prop) (x0 : Int) (x1 : ByteArray) (x2 : Bool) (x3 : LL) (x4 : LL) (x5 : Int) (x6 : LL) (x7 : LL) (room : Int) (i : Int) (o : LL) : Prop := LoopAt Tryz.prog (modeOf [] []) ref09_bare_lv Tryz.f68 none R [1, 1, 1, 0, 1, 0] (ref09_bare_S0 x0 x1 x2 x3 x4 x5 x6 x7 room i o)
def ref09_bare_R0 (R : TV → List Ob → Prop) (x0 : Int) (x1 : ByteArray) (x2 : Bool) (x3 : LL) (x4 : LL) (x5 : Int) (x6 : LL) (x7 : LL) (room : Int) (i : Int) (o : LL) : Prop :=
 ((((decide (i < (((List.length x4) : Nat) : Int))) = true) → (((0 : Int) ≤ i) ∧ (∃ n8 : Int, (∃ s4 : ByteArray, (∃ b6 : Bool, (∃ es12 : LL, (∃ es13 : LL, (∃ n9 : Int, (∃ es14 : LL, (∃ es15 : LL, (((x4)[(Int.toNat i)]? = (some [(FV.int .i64 n8), (FV.str s4), (FV.bool b6), (FV.sl 1 es12), (FV.sl 8 es13), (FV.int .i64 n9), (FV.sl 1 es14), (FV.sl 1 es15)])) ∧ (∃ n10 : Int, (∃ s5 : ByteArray, (∃ b7 : Bool, (∃ es16 : LL, (∃ es17 : LL, (∃ n11 : Int, (∃ b8 : Bool, ((Fn Tryz.prog 68 [(TV.agg [(AV.fz (FV.int .i64 n8)), (AV.fz (FV.str s4)), (AV.fz (FV.bool b6)), (AV.fz (FV.sl 1 es12)), (AV.fz (FV.sl 8 es13)), (AV.fz (FV.int .i64 n9)), (AV.fz (FV.sl 1 es14)), (AV.fz (FV.sl 1 es15))]), (TV.one (AV.fz (FV.int .i64 (IntKind.wrap .i64 (room - 1)))))] [] (TV.tup [(true, [(AV.fz (FV.int .i64 n10)), (AV.fz (FV.str s5)), (AV.fz (FV.bool b7)), (AV.fz (FV.sl 1 es16)), (AV.fz (FV.sl 6 es17)), (AV.fz (FV.int .i64 n11))]), (false, [(AV.fz (FV.bool b8))])]) []) ∧ ((((Bool.not b8) = true) → (R (TV.tup [(true, [(AV.fz (FV.int .i64 x0)), (AV.fz (FV.str x1)), (AV.fz (FV.bool x2)), (AV.fz (FV.sl 1 x3)), (AV.fz (FV.sl 6 o)), (AV.fz (FV.int .i64 x5))]), (false, [(AV.fz (FV.bool false))])]) [])) ∧ (((Bool.not b8) = false) → (((((List.length o) + (List.length [[(FV.int .i64 n10), (FV.str s5), (FV.bool b7), (FV.sl 1 es16), (FV.sl 6 es17), (FV.int .i64 n11)]])) * 88) ≤ 220000000000000) ∧ (ref09_bare_L0 R x0 x1 x2 x3 x4 x5 x6 x7 room (IntKind.wrap .i64 (i + 1)) (o ++ [[(FV.int .i64 n10), (FV.str s5), (FV.bool b7), (FV.sl 1 es16), (FV.sl 6 es17), (FV.int .i64 n11)]])))))))))))))))))))))))) ∧ (((decide (i < (((List.length x4) : Nat) : Int))) = false) → (R (TV.tup [(true, [(AV.fz (FV.int .i64 x0)), (AV.fz (FV.str x1)), (AV.fz (FV.bool x2)), (AV.fz (FV.sl 1 x3)), (AV.fz (FV.sl 6 o)), (AV.fz (FV.int .i64 x5))]), (false, [(AV.fz (FV.bool true))])]) [])))
theorem ref09_bare_l0 {R : TV → List Ob → Prop} {x0 : Int} {x1 : ByteArray} {x2 : Bool} {x3 : LL} {x4 : LL} {x5 : Int} {x6 : LL} {x7 : LL} {room : Int} {i : Int} {o : LL} (h : ref09_bare_R0 R x0 x1 x2 x3 x4 x5 x6 x7 room i o) : ref09_bare_L0 R x0 x1 x2 x3 x4 x5 x6 x7 room i o :=
 LoopAt.by_tr (by kernel_rfl) (by kernel_rfl) h
def ref09_bare_H (R : TV → List Ob → Prop) (x0 : Int) (x1 : ByteArray) (x2 : Bool) (x3 : LL) (x4 : LL) (x5 : Int) (x6 : LL) (x7 : LL) (room : Int) : Prop :=
 ((((room == 0) = true) → (R (TV.tup [(true, [(AV.fz (FV.int .i64 x0)), (AV.fz (FV.str x1)), (AV.fz (FV.bool x2)), (AV.fz (FV.sl 1 x3)), (AV.fz (FV.sl 6 ([] : LL))), (AV.fz (FV.int .i64 x5))]), (false, [(AV.fz (FV.bool false))])]) [])) ∧ (((room == 0) = false) → (ref09_bare_L0 R x0 x1 x2 x3 x4 x5 x6 x7 room 0 ([] : LL))))
theorem ref09_bare_fn (x0 : Int) (x1 : ByteArray) (x2 : Bool) (x3 : LL) (x4 : LL) (x5 : Int) (x6 : LL) (x7 : LL) (room : Int) {r : TV} {h : List Ob} (H : ref09_bare_H (fun r' h' => r' = r ∧ h' = h) x0 x1 x2 x3 x4 x5 x6 x7 room) : Fn Tryz.prog 68 [(TV.agg [(AV.fz (FV.int .i64 x0)), (AV.fz (FV.str x1)), (AV.fz (FV.bool x2)), (AV.fz (FV.sl 1 x3)), (AV.fz (FV.sl 8 x4)), (AV.fz (FV.int .i64 x5)), (AV.fz (FV.sl 1 x6)), (AV.fz (FV.sl 1 x7))]), (TV.one (AV.fz (FV.int .i64 room)))] [] r h :=
 Fn.by_tr (M := (modeOf [] [])) (lv := ref09_bare_lv) (own := none) (F := Tryz.f68) (by kernel_rfl) (by kernel_rfl) (by first | decide | simp) (fun _ _ h => h) (by kernel_rfl) H
def ref09_flat_lv : List Nat → Keep := lvOf [([0, 1, 0, 1, 1, 1, 1], ⟨6984, 0, [], false, false⟩)]
def ref09_flat_S0 (x0 : Int) (x1 : ByteArray) (x2 : Bool) (x3 : LL) (x4 : LL) (x5 : Int) (x6 : LL) (x7 : LL) (es : LL) (es1 : LL) (i : Int) (o : LL) : St := (St.mk [TV.und, TV.und, TV.und, (TV.one (AV.ptr 0 0 0 0)), TV.und, TV.und, (TV.one (AV.ptr 1 0 0 0)), TV.und, (TV.one (AV.fz (FV.sl 1 es))), (TV.one (AV.fz (FV.sl 1 es1))), TV.und, (TV.one (AV.ptr 2 0 0 0)), (TV.one (AV.fz (FV.int .i64 i))), TV.und, TV.und, TV.und, TV.und, TV.und, TV.und, TV.und, TV.und, TV.und, TV.und, TV.und, TV.und, TV.und, TV.und, TV.und, TV.und, TV.und, TV.und, TV.und, TV.und, TV.und, TV.und, TV.und, TV.und, TV.und, TV.und, TV.und, TV.und, TV.und, TV.und, TV.und, TV.und, TV.und, TV.und, TV.und, TV.und, TV.und, TV.und, TV.und, TV.und, TV.und, TV.und, TV.und, TV.und, TV.und, TV.und, TV.und, TV.und, TV.und, TV.und, TV.und, TV.und, TV.und, TV.und, TV.und, TV.und, TV.und, TV.und, TV.und, TV.und] [(Ob.g 28 [(AV.fz (FV.int .i64 x0)), (AV.fz (FV.str x1)), (AV.fz (FV.bool x2)), (AV.fz (FV.sl 1 x3)), (AV.fz (FV.sl 8 x4)), (AV.fz (FV.int .i64 x5)), (AV.fz (FV.sl 1 x6)), (AV.fz (FV.sl 1 x7))]), (Ob.g 28 [(AV.fz (FV.int .i64 0)), (AV.fz (FV.str (ByteArray.mk #[]))), (AV.fz (FV.bool false)), (AV.ofl 1 3), (AV.ofl 8 4), (AV.fz (FV.int .i64 0)), (AV.ofl 1 5), (AV.ofl 1 6)]), (Ob.g 28 [(AV.fz (FV.int .i64 x0)), (AV.fz (FV.str x1)), (AV.fz (FV.bool x2)), (AV.fz (FV.sl 1 x3)), (AV.ofl 8 7), (AV.fz (FV.int .i64 x5)), (AV.ofl 1 8), (AV.ofl 1 9)]), (Ob.f 0 1 ([] : LL)), (Ob.f 0 8 ([] : LL)), (Ob.f 0 1 ([] : LL)), (Ob.f 0 1 ([] : LL)), (Ob.f 0 8 o), (Ob.f 0 1 ([] : LL)), (Ob.f 0 1 ([] : LL))])
def ref09_flat_L0 (R : TV → List Ob → Prop) (x0 : Int) (x1 : ByteArray) (x2 : Bool) (x3 : LL) (x4 : LL) (x5 : Int) (x6 : LL) (x7 : LL) (es : LL) (es1 : LL) (i : Int) (o : LL) : Prop := LoopAt Tryz.prog (modeOf [] []) ref09_flat_lv Tryz.f71 none R [1, 1, 1, 1, 0, 1, 0] (ref09_flat_S0 x0 x1 x2 x3 x4 x5 x6 x7 es es1 i o)
def ref09_flat_R0 (R : TV → List Ob → Prop) (x0 : Int) (x1 : ByteArray) (x2 : Bool) (x3 : LL) (x4 : LL) (x5 : Int) (x6 : LL) (x7 : LL) (es : LL) (es1 : LL) (i : Int) (o : LL) : Prop :=
 ((((decide (i < (((List.length x4) : Nat) : Int))) = true) → (((0 : Int) ≤ i) ∧ (∃ n9 : Int, (∃ s5 : ByteArray, (∃ b6 : Bool, (∃ es18 : LL, (∃ es19 : LL, (∃ n10 : Int, (∃ es20 : LL, (∃ es21 : LL, (((x4)[(Int.toNat i)]? = (some [(FV.int .i64 n9), (FV.str s5), (FV.bool b6), (FV.sl 1 es18), (FV.sl 8 es19), (FV.int .i64 n10), (FV.sl 1 es20), (FV.sl 1 es21)])) ∧ (∃ n11 : Int, (∃ s6 : ByteArray, (∃ b7 : Bool, (∃ es22 : LL, (∃ es23 : LL, (∃ n12 : Int, (∃ es24 : LL, (∃ es25 : LL, (∃ b8 : Bool, ((Fn Tryz.prog 71 [(TV.agg [(AV.fz (FV.int .i64 n9)), (AV.fz (FV.str s5)), (AV.fz (FV.bool b6)), (AV.fz (FV.sl 1 es18)), (AV.fz (FV.sl 8 es19)), (AV.fz (FV.int .i64 n10)), (AV.fz (FV.sl 1 es20)), (AV.fz (FV.sl 1 es21))]), (TV.one (AV.fz (FV.sl 1 es))), (TV.one (AV.fz (FV.sl 1 es1)))] [] (TV.tup [(true, [(AV.fz (FV.int .i64 n11)), (AV.fz (FV.str s6)), (AV.fz (FV.bool b7)), (AV.fz (FV.sl 1 es22)), (AV.fz (FV.sl 8 es23)), (AV.fz (FV.int .i64 n12)), (AV.fz (FV.sl 1 es24)), (AV.fz (FV.sl 1 es25))]), (false, [(AV.fz (FV.bool b8))])]) []) ∧ ((((Bool.not b8) = true) → (R (TV.tup [(true, [(AV.fz (FV.int .i64 0)), (AV.fz (FV.str (ByteArray.mk #[]))), (AV.fz (FV.bool false)), (AV.fz (FV.sl 1 ([] : LL))), (AV.fz (FV.sl 8 ([] : LL))), (AV.fz (FV.int .i64 0)), (AV.fz (FV.sl 1 ([] : LL))), (AV.fz (FV.sl 1 ([] : LL)))]), (false, [(AV.fz (FV.bool false))])]) [])) ∧ (((Bool.not b8) = false) → (((((List.length o) + (List.length [[(FV.int .i64 n11), (FV.str s6), (FV.bool b7), (FV.sl 1 es22), (FV.sl 8 es23), (FV.int .i64 n12), (FV.sl 1 es24), (FV.sl 1 es25)]])) * 136) ≤ 220000000000000) ∧ (ref09_flat_L0 R x0 x1 x2 x3 x4 x5 x6 x7 es es1 (IntKind.wrap .i64 (i + 1)) (o ++ [[(FV.int .i64 n11), (FV.str s6), (FV.bool b7), (FV.sl 1 es22), (FV.sl 8 es23), (FV.int .i64 n12), (FV.sl 1 es24), (FV.sl 1 es25)]])))))))))))))))))))))))))) ∧ (((decide (i < (((List.length x4) : Nat) : Int))) = false) → ((((x0 == 4) = true) → (R (TV.tup [(true, [(AV.fz (FV.int .i64 x0)), (AV.fz (FV.str x1)), (AV.fz (FV.bool x2)), (AV.fz (FV.sl 1 x3)), (AV.fz (FV.sl 8 o)), (AV.fz (FV.int .i64 x5)), (AV.fz (FV.sl 1 es)), (AV.fz (FV.sl 1 es1))]), (false, [(AV.fz (FV.bool true))])]) [])) ∧ (((x0 == 4) = false) → (R (TV.tup [(true, [(AV.fz (FV.int .i64 x0)), (AV.fz (FV.str x1)), (AV.fz (FV.bool x2)), (AV.fz (FV.sl 1 x3)), (AV.fz (FV.sl 8 o)), (AV.fz (FV.int .i64 x5)), (AV.fz (FV.sl 1 ([] : LL))), (AV.fz (FV.sl 1 ([] : LL)))]), (false, [(AV.fz (FV.bool true))])]) [])))))
theorem ref09_flat_l0 {R : TV → List Ob → Prop} {x0 : Int} {x1 : ByteArray} {x2 : Bool} {x3 : LL} {x4 : LL} {x5 : Int} {x6 : LL} {x7 : LL} {es : LL} {es1 : LL} {i : Int} {o : LL} (h : ref09_flat_R0 R x0 x1 x2 x3 x4 x5 x6 x7 es es1 i o) : ref09_flat_L0 R x0 x1 x2 x3 x4 x5 x6 x7 es es1 i o :=
 LoopAt.by_tr (by kernel_rfl) (by kernel_rfl) h
def ref09_flat_H (R : TV → List Ob → Prop) (x0 : Int) (x1 : ByteArray) (x2 : Bool) (x3 : LL) (x4 : LL) (x5 : Int) (x6 : LL) (x7 : LL) (m : LL) (s : LL) : Prop :=
 (∃ es18 : LL, (∃ es19 : LL, (∃ n9 : Int, ((Fn Tryz.prog 63 [(TV.one (AV.fz (FV.sl 1 m))), (TV.one (AV.fz (FV.sl 1 s))), (TV.one (AV.fz (FV.sl 1 x6))), (TV.one (AV.fz (FV.sl 1 x7)))] [] (TV.tup [(false, [(AV.fz (FV.sl 1 es18))]), (false, [(AV.fz (FV.sl 1 es19))]), (false, [(AV.fz (FV.int .i64 n9))])]) []) ∧ ((((n9 != 0) = true) → (R (TV.tup [(true, [(AV.fz (FV.int .i64 0)), (AV.fz (FV.str (ByteArray.mk #[]))), (AV.fz (FV.bool false)), (AV.fz (FV.sl 1 ([] : LL))), (AV.fz (FV.sl 8 ([] : LL))), (AV.fz (FV.int .i64 0)), (AV.fz (FV.sl 1 ([] : LL))), (AV.fz (FV.sl 1 ([] : LL)))]), (false, [(AV.fz (FV.bool false))])]) [])) ∧ (((n9 != 0) = false) → (ref09_flat_L0 R x0 x1 x2 x3 x4 x5 x6 x7 es18 es19 0 ([] : LL))))))))
theorem ref09_flat_fn (x0 : Int) (x1 : ByteArray) (x2 : Bool) (x3 : LL) (x4 : LL) (x5 : Int) (x6 : LL) (x7 : LL) (m : LL) (s : LL) {r : TV} {h : List Ob} (H : ref09_flat_H (fun r' h' => r' = r ∧ h' = h) x0 x1 x2 x3 x4 x5 x6 x7 m s) : Fn Tryz.prog 71 [(TV.agg [(AV.fz (FV.int .i64 x0)), (AV.fz (FV.str x1)), (AV.fz (FV.bool x2)), (AV.fz (FV.sl 1 x3)), (AV.fz (FV.sl 8 x4)), (AV.fz (FV.int .i64 x5)), (AV.fz (FV.sl 1 x6)), (AV.fz (FV.sl 1 x7))]), (TV.one (AV.fz (FV.sl 1 m))), (TV.one (AV.fz (FV.sl 1 s)))] [] r h :=
 Fn.by_tr (M := (modeOf [] [])) (lv := ref09_flat_lv) (own := none) (F := Tryz.f71) (by kernel_rfl) (by kernel_rfl) (by first | decide | simp) (fun _ _ h => h) (by kernel_rfl) H
def ref09_Join_lv : List Nat → Keep := lvOf []
def ref09_Join_H (R : TV → List Ob → Prop) (m : List (List FV)) (s : List (List FV)) (n : List (List FV)) (t_ : List (List FV)) : Prop :=
 (∃ b11 : Bool, ((Fn Tryz.prog 62 [(TV.one (AV.fz (FV.sl 1 m))), (TV.one (AV.fz (FV.sl 1 s)))] [] (TV.one (AV.fz (FV.bool b11))) []) ∧ ((((Bool.not b11) = true) → (R (TV.tup [(false, [(AV.fz (FV.sl 1 ([] : LL)))]), (false, [(AV.fz (FV.sl 1 ([] : LL)))]), (false, [(AV.fz (FV.int .i64 2))])]) [])) ∧ (((Bool.not b11) = false) → (∃ b12 : Bool, ((Fn Tryz.prog 62 [(TV.one (AV.fz (FV.sl 1 n))), (TV.one (AV.fz (FV.sl 1 t_)))] [] (TV.one (AV.fz (FV.bool b12))) []) ∧ ((((Bool.not b12) = true) → (R (TV.tup [(false, [(AV.fz (FV.sl 1 ([] : LL)))]), (false, [(AV.fz (FV.sl 1 ([] : LL)))]), (false, [(AV.fz (FV.int .i64 2))])]) [])) ∧ (((Bool.not b12) = false) → ((((decide ((0 : Int) < (((List.length m) : Nat) : Int))) = true) → ((((decide ((0 : Int) < (((List.length s) : Nat) : Int))) = true) → ((((decide ((0 : Int) < (((List.length n) : Nat) : Int))) = true) → ((((decide ((0 : Int) < (((List.length t_) : Nat) : Int))) = true) → (((0 : Int) ≤ 0) ∧ (∃ n5 : Int, (((n)[(Int.toNat 0)]? = (some [(FV.int .i64 n5)])) ∧ ((((n5 == (-1)) = true) → (((0 : Int) ≤ (IntKind.wrap .i64 ((((List.length m) : Nat) : Int) - 1))) ∧ (∃ n6 : Int, (((m)[(Int.toNat (IntKind.wrap .i64 ((((List.length m) : Nat) : Int) - 1)))]? = (some [(FV.int .i64 n6)])) ∧ ((((n6 != (-1)) = true) → (((0 : Int) ≤ (IntKind.wrap .i64 ((((List.length s) : Nat) : Int) - 1))) ∧ (∃ n7 : Int, (((s)[(Int.toNat (IntKind.wrap .i64 ((((List.length s) : Nat) : Int) - 1)))]? = (some [(FV.int .i64 n7)])) ∧ ((((n7 == 0) = true) → (((0 : Int) ≤ 0) ∧ (∃ n8 : Int, (((t_)[(Int.toNat 0)]? = (some [(FV.int .i64 n8)])) ∧ ((((n8 == 0) = true) → ((((0 : Int) ≤ (IntKind.wrap .i64 ((((List.length m) : Nat) : Int) - 1))) ∧ ((IntKind.wrap .i64 ((((List.length m) : Nat) : Int) - 1)) ≤ (((List.length m) : Nat) : Int))) ∧ ((((0 : Int) ≤ (IntKind.wrap .i64 ((((List.length s) : Nat) : Int) - 1))) ∧ ((IntKind.wrap .i64 ((((List.length s) : Nat) : Int) - 1)) ≤ (((List.length s) : Nat) : Int))) ∧ ((((0 : Int) ≤ 1) ∧ ((1 : Int) ≤ (((List.length n) : Nat) : Int))) ∧ ((((0 : Int) ≤ 1) ∧ ((1 : Int) ≤ (((List.length t_) : Nat) : Int))) ∧ (((((List.length ([] : LL)) + (List.length (List.take (Int.toNat (IntKind.wrap .i64 ((((List.length m) : Nat) : Int) - 1))) m))) * 8) ≤ 220000000000000) ∧ (((((List.length (([] : LL) ++ (List.take (Int.toNat (IntKind.wrap .i64 ((((List.length m) : Nat) : Int) - 1))) m))) + (List.length (List.drop (Int.toNat 1) n))) * 8) ≤ 220000000000000) ∧ (((((List.length ([] : LL)) + (List.length (List.take (Int.toNat (IntKind.wrap .i64 ((((List.length s) : Nat) : Int) - 1))) s))) * 8) ≤ 220000000000000) ∧ (((((List.length (([] : LL) ++ (List.take (Int.toNat (IntKind.wrap .i64 ((((List.length s) : Nat) : Int) - 1))) s))) + (List.length (List.drop (Int.toNat 1) t_))) * 8) ≤ 220000000000000) ∧ ((((decide ((256 : Int) < (((List.length ((([] : LL) ++ (List.take (Int.toNat (IntKind.wrap .i64 ((((List.length m) : Nat) : Int) - 1))) m)) ++ (List.drop (Int.toNat 1) n))) : Nat) : Int))) = true) → (R (TV.tup [(false, [(AV.fz (FV.sl 1 ([] : LL)))]), (false, [(AV.fz (FV.sl 1 ([] : LL)))]), (false, [(AV.fz (FV.int .i64 6))])]) [])) ∧ (((decide ((256 : Int) < (((List.length ((([] : LL) ++ (List.take (Int.toNat (IntKind.wrap .i64 ((((List.length m) : Nat) : Int) - 1))) m)) ++ (List.drop (Int.toNat 1) n))) : Nat) : Int))) = false) → ((((decide ((256 : Int) < (((List.length ((([] : LL) ++ (List.take (Int.toNat (IntKind.wrap .i64 ((((List.length s) : Nat) : Int) - 1))) s)) ++ (List.drop (Int.toNat 1) t_))) : Nat) : Int))) = true) → (R (TV.tup [(false, [(AV.fz (FV.sl 1 ([] : LL)))]), (false, [(AV.fz (FV.sl 1 ([] : LL)))]), (false, [(AV.fz (FV.int .i64 6))])]) [])) ∧ (((decide ((256 : Int) < (((List.length ((([] : LL) ++ (List.take (Int.toNat (IntKind.wrap .i64 ((((List.length s) : Nat) : Int) - 1))) s)) ++ (List.drop (Int.toNat 1) t_))) : Nat) : Int))) = false) → (∃ b13 : Bool, ((Fn Tryz.prog 100 [(TV.one (AV.fz (FV.sl 1 ((([] : LL) ++ (List.take (Int.toNat (IntKind.wrap .i64 ((((List.length m) : Nat) : Int) - 1))) m)) ++ (List.drop (Int.toNat 1) n))))), (TV.one (AV.fz (FV.sl 1 ((([] : LL) ++ (List.take (Int.toNat (IntKind.wrap .i64 ((((List.length s) : Nat) : Int) - 1))) s)) ++ (List.drop (Int.toNat 1) t_)))))] [] (TV.one (AV.fz (FV.bool b13))) []) ∧ ((((Bool.not b13) = true) → (R (TV.tup [(false, [(AV.fz (FV.sl 1 ([] : LL)))]), (false, [(AV.fz (FV.sl 1 ([] : LL)))]), (false, [(AV.fz (FV.int .i64 2))])]) [])) ∧ (((Bool.not b13) = false) → (R (TV.tup [(false, [(AV.fz (FV.sl 1 ((([] : LL) ++ (List.take (Int.toNat (IntKind.wrap .i64 ((((List.length m) : Nat) : Int) - 1))) m)) ++ (List.drop (Int.toNat 1) n))))]), (false, [(AV.fz (FV.sl 1 ((([] : LL) ++ (List.take (Int.toNat (IntKind.wrap .i64 ((((List.length s) : Nat) : Int) - 1))) s)) ++ (List.drop (Int.toNat 1) t_))))]), (false, [(AV.fz (FV.int .i64 0))])]) [])))))))))))))))))) ∧ (((n8 == 0) = false) → (((((List.length ([] : LL)) + (List.length m)) * 8) ≤ 220000000000000) ∧ (((((List.length (([] : LL) ++ m)) + (List.length n)) * 8) ≤ 220000000000000) ∧ (((((List.length ([] : LL)) + (List.length s)) * 8) ≤ 220000000000000) ∧ (((((List.length (([] : LL) ++ s)) + (List.length t_)) * 8) ≤ 220000000000000) ∧ ((((decide ((256 : Int) < (((List.length ((([] : LL) ++ m) ++ n)) : Nat) : Int))) = true) → (R (TV.tup [(false, [(AV.fz (FV.sl 1 ([] : LL)))]), (false, [(AV.fz (FV.sl 1 ([] : LL)))]), (false, [(AV.fz (FV.int .i64 6))])]) [])) ∧ (((decide ((256 : Int) < (((List.length ((([] : LL) ++ m) ++ n)) : Nat) : Int))) = false) → ((((decide ((256 : Int) < (((List.length ((([] : LL) ++ s) ++ t_)) : Nat) : Int))) = true) → (R (TV.tup [(false, [(AV.fz (FV.sl 1 ([] : LL)))]), (false, [(AV.fz (FV.sl 1 ([] : LL)))]), (false, [(AV.fz (FV.int .i64 6))])]) [])) ∧ (((decide ((256 : Int) < (((List.length ((([] : LL) ++ s) ++ t_)) : Nat) : Int))) = false) → (∃ b14 : Bool, ((Fn Tryz.prog 100 [(TV.one (AV.fz (FV.sl 1 ((([] : LL) ++ m) ++ n)))), (TV.one (AV.fz (FV.sl 1 ((([] : LL) ++ s) ++ t_))))] [] (TV.one (AV.fz (FV.bool b14))) []) ∧ ((((Bool.not b14) = true) → (R (TV.tup [(false, [(AV.fz (FV.sl 1 ([] : LL)))]), (false, [(AV.fz (FV.sl 1 ([] : LL)))]), (false, [(AV.fz (FV.int .i64 2))])]) [])) ∧ (((Bool.not b14) = false) → (R (TV.tup [(false, [(AV.fz (FV.sl 1 ((([] : LL) ++ m) ++ n)))]), (false, [(AV.fz (FV.sl 1 ((([] : LL) ++ s) ++ t_)))]), (false, [(AV.fz (FV.int .i64 0))])]) []))))))))))))))))))) ∧ (((n7 == 0) = false) → (((((List.length ([] : LL)) + (List.length m)) * 8) ≤ 220000000000000) ∧ (((((List.length (([] : LL) ++ m)) + (List.length n)) * 8) ≤ 220000000000000) ∧ (((((List.length ([] : LL)) + (List.length s)) * 8) ≤ 220000000000000) ∧ (((((List.length (([] : LL) ++ s)) + (List.length t_)) * 8) ≤ 220000000000000) ∧ ((((decide ((256 : Int) < (((List.length ((([] : LL) ++ m) ++ n)) : Nat) : Int))) = true) → (R (TV.tup [(false, [(AV.fz (FV.sl 1 ([] : LL)))]), (false, [(AV.fz (FV.sl 1 ([] : LL)))]), (false, [(AV.fz (FV.int .i64 6))])]) [])) ∧ (((decide ((256 : Int) < (((List.length ((([] : LL) ++ m) ++ n)) : Nat) : Int))) = false) → ((((decide ((256 : Int) < (((List.length ((([] : LL) ++ s) ++ t_)) : Nat) : Int))) = true) → (R (TV.tup [(false, [(AV.fz (FV.sl 1 ([] : LL)))]), (false, [(AV.fz (FV.sl 1 ([] : LL)))]), (false, [(AV.fz (FV.int .i64 6))])]) [])) ∧ (((decide ((256 : Int) < (((List.length ((([] : LL) ++ s) ++ t_)) : Nat) : Int))) = false) → (∃ b15 : Bool, ((Fn Tryz.prog 100 [(TV.one (AV.fz (FV.sl 1 ((([] : LL) ++ m) ++ n)))), (TV.one (AV.fz (FV.sl 1 ((([] : LL) ++ s) ++ t_))))] [] (TV.one (AV.fz (FV.bool b15))) []) ∧ ((((Bool.not b15) = true) → (R (TV.tup [(false, [(AV.fz (FV.sl 1 ([] : LL)))]), (false, [(AV.fz (FV.sl 1 ([] : LL)))]), (false, [(AV.fz (FV.int .i64 2))])]) [])) ∧ (((Bool.not b15) = false) → (R (TV.tup [(false, [(AV.fz (FV.sl 1 ((([] : LL) ++ m) ++ n)))]), (false, [(AV.fz (FV.sl 1 ((([] : LL) ++ s) ++ t_)))]), (false, [(AV.fz (FV.int .i64 0))])]) []))))))))))))))))))) ∧ (((n6 != (-1)) = false) → (((((List.length ([] : LL)) + (List.length m)) * 8) ≤ 220000000000000) ∧ (((((List.length (([] : LL) ++ m)) + (List.length n)) * 8) ≤ 220000000000000) ∧ (((((List.length ([] : LL)) + (List.length s)) * 8) ≤ 220000000000000) ∧ (((((List.length (([] : LL) ++ s)) + (List.length t_)) * 8) ≤ 220000000000000) ∧ ((((decide ((256 : Int) < (((List.length ((([] : LL) ++ m) ++ n)) : Nat) : Int))) = true) → (R (TV.tup [(false, [(AV.fz (FV.sl 1 ([] : LL)))]), (false, [(AV.fz (FV.sl 1 ([] : LL)))]), (false, [(AV.fz (FV.int .i64 6))])]) [])) ∧ (((decide ((256 : Int) < (((List.length ((([] : LL) ++ m) ++ n)) : Nat) : Int))) = false) → ((((decide ((256 : Int) < (((List.length ((([] : LL) ++ s) ++ t_)) : Nat) : Int))) = true) → (R (TV.tup [(false, [(AV.fz (FV.sl 1 ([] : LL)))]), (false, [(AV.fz (FV.sl 1 ([] : LL)))]), (false, [(AV.fz (FV.int .i64 6))])]) [])) ∧ (((decide ((256 : Int) < (((List.length ((([] : LL) ++ s) ++ t_)) : Nat) : Int))) = false) → (∃ b16 : Bool, ((Fn Tryz.prog 100 [(TV.one (AV.fz (FV.sl 1 ((([] : LL) ++ m) ++ n)))), (TV.one (AV.fz (FV.sl 1 ((([] : LL) ++ s) ++ t_))))] [] (TV.one (AV.fz (FV.bool b16))) []) ∧ ((((Bool.not b16) = true) → (R (TV.tup [(false, [(AV.fz (FV.sl 1 ([] : LL)))]), (false, [(AV.fz (FV.sl 1 ([] : LL)))]), (false, [(AV.fz (FV.int .i64 2))])]) [])) ∧ (((Bool.not b16) = false) → (R (TV.tup [(false, [(AV.fz (FV.sl 1 ((([] : LL) ++ m) ++ n)))]), (false, [(AV.fz (FV.sl 1 ((([] : LL) ++ s) ++ t_)))]), (false, [(AV.fz (FV.int .i64 0))])]) []))))))))))))))))))) ∧ (((n5 == (-1)) = false) → (((((List.length ([] : LL)) + (List.length m)) * 8) ≤ 220000000000000) ∧ (((((List.length (([] : LL) ++ m)) + (List.length n)) * 8) ≤ 220000000000000) ∧ (((((List.length ([] : LL)) + (List.length s)) * 8) ≤ 220000000000000) ∧ (((((List.length (([] : LL) ++ s)) + (List.length t_)) * 8) ≤ 220000000000000) ∧ ((((decide ((256 : Int) < (((List.length ((([] : LL) ++ m) ++ n)) : Nat) : Int))) = true) → (R (TV.tup [(false, [(AV.fz (FV.sl 1 ([] : LL)))]), (false, [(AV.fz (FV.sl 1 ([] : LL)))]), (false, [(AV.fz (FV.int .i64 6))])]) [])) ∧ (((decide ((256 : Int) < (((List.length ((([] : LL) ++ m) ++ n)) : Nat) : Int))) = false) → ((((decide ((256 : Int) < (((List.length ((([] : LL) ++ s) ++ t_)) : Nat) : Int))) = true) → (R (TV.tup [(false, [(AV.fz (FV.sl 1 ([] : LL)))]), (false, [(AV.fz (FV.sl 1 ([] : LL)))]), (false, [(AV.fz (FV.int .i64 6))])]) [])) ∧ (((decide ((256 : Int) < (((List.length ((([] : LL) ++ s) ++ t_)) : Nat) : Int))) = false) → (∃ b17 : Bool, ((Fn Tryz.prog 100 [(TV.one (AV.fz (FV.sl 1 ((([] : LL) ++ m) ++ n)))), (TV.one (AV.fz (FV.sl 1 ((([] : LL) ++ s) ++ t_))))] [] (TV.one (AV.fz (FV.bool b17))) []) ∧ ((((Bool.not b17) = true) → (R (TV.tup [(false, [(AV.fz (FV.sl 1 ([] : LL)))]), (false, [(AV.fz (FV.sl 1 ([] : LL)))]), (false, [(AV.fz (FV.int .i64 2))])]) [])) ∧ (((Bool.not b17) = false) → (R (TV.tup [(false, [(AV.fz (FV.sl 1 ((([] : LL) ++ m) ++ n)))]), (false, [(AV.fz (FV.sl 1 ((([] : LL) ++ s) ++ t_)))]), (false, [(AV.fz (FV.int .i64 0))])]) []))))))))))))))))))) ∧ (((decide ((0 : Int) < (((List.length t_) : Nat) : Int))) = false) → (((((List.length ([] : LL)) + (List.length m)) * 8) ≤ 220000000000000) ∧ (((((List.length (([] : LL) ++ m)) + (List.length n)) * 8) ≤ 220000000000000) ∧ (((((List.length ([] : LL)) + (List.length s)) * 8) ≤ 220000000000000) ∧ (((((List.length (([] : LL) ++ s)) + (List.length t_)) * 8) ≤ 220000000000000) ∧ ((((decide ((256 : Int) < (((List.length ((([] : LL) ++ m) ++ n)) : Nat) : Int))) = true) → (R (TV.tup [(false, [(AV.fz (FV.sl 1 ([] : LL)))]), (false, [(AV.fz (FV.sl 1 ([] : LL)))]), (false, [(AV.fz (FV.int .i64 6))])]) [])) ∧ (((decide ((256 : Int) < (((List.length ((([] : LL) ++ m) ++ n)) : Nat) : Int))) = false) → ((((decide ((256 : Int) < (((List.length ((([] : LL) ++ s) ++ t_)) : Nat) : Int))) = true) → (R (TV.tup [(false, [(AV.fz (FV.sl 1 ([] : LL)))]), (false, [(AV.fz (FV.sl 1 ([] : LL)))]), (false, [(AV.fz (FV.int .i64 6))])]) [])) ∧ (((decide ((256 : Int) < (((List.length ((([] : LL) ++ s) ++ t_)) : Nat) : Int))) = false) → (∃ b18 : Bool, ((Fn Tryz.prog 100 [(TV.one (AV.fz (FV.sl 1 ((([] : LL) ++ m) ++ n)))), (TV.one (AV.fz (FV.sl 1 ((([] : LL) ++ s) ++ t_))))] [] (TV.one (AV.fz (FV.bool b18))) []) ∧ ((((Bool.not b18) = true) → (R (TV.tup [(false, [(AV.fz (FV.sl 1 ([] : LL)))]), (false, [(AV.fz (FV.sl 1 ([] : LL)))]), (false, [(AV.fz (FV.int .i64 2))])]) [])) ∧ (((Bool.not b18) = false) → (R (TV.tup [(false, [(AV.fz (FV.sl 1 ((([] : LL) ++ m) ++ n)))]), (false, [(AV.fz (FV.sl 1 ((([] : LL) ++ s) ++ t_)))]), (false, [(AV.fz (FV.int .i64 0))])]) [])))))))))))))))) ∧ (((decide ((0 : Int) < (((List.length n) : Nat) : Int))) = false) → (((((List.length ([] : LL)) + (List.length m)) * 8) ≤ 220000000000000) ∧ (((((List.length (([] : LL) ++ m)) + (List.length n)) * 8) ≤ 220000000000000) ∧ (((((List.length ([] : LL)) + (List.length s)) * 8) ≤ 220000000000000) ∧ (((((List.length (([] : LL) ++ s)) + (List.length t_)) * 8) ≤ 220000000000000) ∧ ((((decide ((256 : Int) < (((List.length ((([] : LL) ++ m) ++ n)) : Nat) : Int))) = true) → (R (TV.tup [(false, [(AV.fz (FV.sl 1 ([] : LL)))]), (false, [(AV.fz (FV.sl 1 ([] : LL)))]), (false, [(AV.fz (FV.int .i64 6))])]) [])) ∧ (((decide ((256 : Int) < (((List.length ((([] : LL) ++ m) ++ n)) : Nat) : Int))) = false) → ((((decide ((256 : Int) < (((List.length ((([] : LL) ++ s) ++ t_)) : Nat) : Int))) = true) → (R (TV.tup [(false, [(AV.fz (FV.sl 1 ([] : LL)))]), (false, [(AV.fz (FV.sl 1 ([] : LL)))]), (false, [(AV.fz (FV.int .i64 6))])]) [])) ∧ (((decide ((256 : Int) < (((List.length ((([] : LL) ++ s) ++ t_)) : Nat) : Int))) = false) → (∃ b19 : Bool, ((Fn Tryz.prog 100 [(TV.one (AV.fz (FV.sl 1 ((([] : LL) ++ m) ++ n)))), (TV.one (AV.fz (FV.sl 1 ((([] : LL) ++ s) ++ t_))))] [] (TV.one (AV.fz (FV.bool b19))) []) ∧ ((((Bool.not b19) = true) → (R (TV.tup [(false, [(AV.fz (FV.sl 1 ([] : LL)))]), (false, [(AV.fz (FV.sl 1 ([] : LL)))]), (false, [(AV.fz (FV.int .i64 2))])]) [])) ∧ (((Bool.not b19) = false) → (R (TV.tup [(false, [(AV.fz (FV.sl 1 ((([] : LL) ++ m) ++ n)))]), (false, [(AV.fz (FV.sl 1 ((([] : LL) ++ s) ++ t_)))]), (false, [(AV.fz (FV.int .i64 0))])]) [])))))))))))))))) ∧ (((decide ((0 : Int) < (((List.length s) : Nat) : Int))) = false) → (((((List.length ([] : LL)) + (List.length m)) * 8) ≤ 220000000000000) ∧ (((((List.length (([] : LL) ++ m)) + (List.length n)) * 8) ≤ 220000000000000) ∧ (((((List.length ([] : LL)) + (List.length s)) * 8) ≤ 220000000000000) ∧ (((((List.length (([] : LL) ++ s)) + (List.length t_)) * 8) ≤ 220000000000000) ∧ ((((decide ((256 : Int) < (((List.length ((([] : LL) ++ m) ++ n)) : Nat) : Int))) = true) → (R (TV.tup [(false, [(AV.fz (FV.sl 1 ([] : LL)))]), (false, [(AV.fz (FV.sl 1 ([] : LL)))]), (false, [(AV.fz (FV.int .i64 6))])]) [])) ∧ (((decide ((256 : Int) < (((List.length ((([] : LL) ++ m) ++ n)) : Nat) : Int))) = false) → ((((decide ((256 : Int) < (((List.length ((([] : LL) ++ s) ++ t_)) : Nat) : Int))) = true) → (R (TV.tup [(false, [(AV.fz (FV.sl 1 ([] : LL)))]), (false, [(AV.fz (FV.sl 1 ([] : LL)))]), (false, [(AV.fz (FV.int .i64 6))])]) [])) ∧ (((decide ((256 : Int) < (((List.length ((([] : LL) ++ s) ++ t_)) : Nat) : Int))) = false) → (∃ b20 : Bool, ((Fn Tryz.prog 100 [(TV.one (AV.fz (FV.sl 1 ((([] : LL) ++ m) ++ n)))), (TV.one (AV.fz (FV.sl 1 ((([] : LL) ++ s) ++ t_))))] [] (TV.one (AV.fz (FV.bool b20))) []) ∧ ((((Bool.not b20) = true) → (R (TV.tup [(false, [(AV.fz (FV.sl 1 ([] : LL)))]), (false, [(AV.fz (FV.sl 1 ([] : LL)))]), (false, [(AV.fz (FV.int .i64 2))])]) [])) ∧ (((Bool.not b20) = false) → (R (TV.tup [(false, [(AV.fz (FV.sl 1 ((([] : LL) ++ m) ++ n)))]), (false, [(AV.fz (FV.sl 1 ((([] : LL) ++ s) ++ t_)))]), (false, [(AV.fz (FV.int .i64 0))])]) [])))))))))))))))) ∧ (((decide ((0 : Int) < (((List.length m) : Nat) : Int))) = false) → (((((List.length ([] : LL)) + (List.length m)) * 8) ≤ 220000000000000) ∧ (((((List.length (([] : LL) ++ m)) + (List.length n)) * 8) ≤ 220000000000000) ∧ (((((List.length ([] : LL)) + (List.length s)) * 8) ≤ 220000000000000) ∧ (((((List.length (([] : LL) ++ s)) + (List.length t_)) * 8) ≤ 220000000000000) ∧ ((((decide ((256 : Int) < (((List.length ((([] : LL) ++ m) ++ n)) : Nat) : Int))) = true) → (R (TV.tup [(false, [(AV.fz (FV.sl 1 ([] : LL)))]), (false, [(AV.fz (FV.sl 1 ([] : LL)))]), (false, [(AV.fz (FV.int .i64 6))])]) [])) ∧ (((decide ((256 : Int) < (((List.length ((([] : LL) ++ m) ++ n)) : Nat) : Int))) = false) → ((((decide ((256 : Int) < (((List.length ((([] : LL) ++ s) ++ t_)) : Nat) : Int))) = true) → (R (TV.tup [(false, [(AV.fz (FV.sl 1 ([] : LL)))]), (false, [(AV.fz (FV.sl 1 ([] : LL)))]), (false, [(AV.fz (FV.int .i64 6))])]) [])) ∧ (((decide ((256 : Int) < (((List.length ((([] : LL) ++ s) ++ t_)) : Nat) : Int))) = false) → (∃ b21 : Bool, ((Fn Tryz.prog 100 [(TV.one (AV.fz (FV.sl 1 ((([] : LL) ++ m) ++ n)))), (TV.one (AV.fz (FV.sl 1 ((([] : LL) ++ s) ++ t_))))] [] (TV.one (AV.fz (FV.bool b21))) []) ∧ ((((Bool.not b21) = true) → (R (TV.tup [(false, [(AV.fz (FV.sl 1 ([] : LL)))]), (false, [(AV.fz (FV.sl 1 ([] : LL)))]), (false, [(AV.fz (FV.int .i64 2))])]) [])) ∧ (((Bool.not b21) = false) → (R (TV.tup [(false, [(AV.fz (FV.sl 1 ((([] : LL) ++ m) ++ n)))]), (false, [(AV.fz (FV.sl 1 ((([] : LL) ++ s) ++ t_)))]), (false, [(AV.fz (FV.int .i64 0))])]) [])))))))))))))))))))))))
theorem ref09_Join_fn (m : LL) (s : LL) (n : LL) (t_ : LL) {r : TV} {h : List Ob} (H : ref09_Join_H (fun r' h' => r' = r ∧ h' = h) m s n t_) : Fn Tryz.prog 63 [(TV.one (AV.fz (FV.sl 1 m))), (TV.one (AV.fz (FV.sl 1 s))), (TV.one (AV.fz (FV.sl 1 n))), (TV.one (AV.fz (FV.sl 1 t_)))] [] r h :=
 Fn.by_tr (M := (modeOf [] [])) (lv := ref09_Join_lv) (own := none) (F := Tryz.f63) (by kernel_rfl) (by kernel_rfl) (by first | decide | simp) (fun _ _ h => h) (by kernel_rfl) H
end
section
def mOkAt : Nat → List Int → Bool
 | _, [] => true
 | j, x :: xs => (decide (1 ≤ x) || (decide (x = -1) && decide (j = 0))) && mOkAt (j + 1) xs
def zer : List Int → Int
 | [] => 0
 | x :: xs => (if x = 0 then 1 else 0) + zer xs
def wrIn (m s : List Int) : Bool := s.all (fun x => decide (0 ≤ x)) && (mOkAt 0 m && (zer s == (m.length : Int)))
def wrSnd (m s : List Int) : Bool := decide (m.length ≤ 256) && (decide (s.length ≤ 256) && wrIn m s)
theorem drop_rd (l : List Int) (j : Nat) (h : j < l.length) : l.drop j = rd l j :: l.drop (j + 1) := by
 rw [rd_at l j h]; exact List.drop_eq_getElem_cons h
theorem wsound_l1 (m s : List Int) (hm : All64 m) (R : TV → List Ob → Prop) (hR : R (fzB (mOkAt 0 m && (zer s == (m.length : Int)))) []) : ∀ (d j : Nat), j + d = m.length → mOkAt 0 m = mOkAt j (m.drop j) →
  wrap_Wrap_sound_L1 R (ints .i64 m) (ints .i64 s) (zer s) j
 | 0, j, hj, h => by
  refine wrap_Wrap_sound_l1 ?_
  unfold wrap_Wrap_sound_R1
  simp only [ints_len, ints_app, ints_snoc, ints_take, ints_drop, ints_set, ints_rep, ints_one, ex_rd, dec_t, dec_f, beq_t, beq_f, bne_t, bne_f, not_t, not_f, List.length_set, List.length_append, List.length_cons, List.length_nil, List.length_take, List.length_drop, List.length_replicate, Int.toNat_natCast, List.nil_append, Bool.not_true, Bool.not_false, Wk_nil, Wk_cons, wk1_same, wk1_f, and_true, true_and, Bool.false_eq_true, Bool.true_eq_false, false_implies, forall_const]
  refine ⟨fun h => by omega, fun _ => ?_⟩
  rw [h, List.drop_of_length_le (by omega)] at hR
  simpa [mOkAt] using hR
 | d + 1, j, hj, h => by
  refine wrap_Wrap_sound_l1 ?_
  unfold wrap_Wrap_sound_R1
  have hl := hm.2
  have e : IntKind.wrap .i64 ((j : Int) + 1) = ((j + 1 : Nat) : Int) := w64 (by omega) (by omega)
  rw [drop_rd m j (by omega)] at h
  simp only [mOkAt] at h
  have bad : (decide (1 ≤ rd m j) || (decide (rd m j = -1) && decide (j = 0))) = false → R (fzB false) [] := fun hb => by
   rw [h, hb] at hR; simpa using hR
  have good : (decide (1 ≤ rd m j) || (decide (rd m j = -1) && decide (j = 0))) = true → wrap_Wrap_sound_L1 R (ints .i64 m) (ints .i64 s) (zer s) ((j + 1 : Nat) : Int) := fun hg =>
   wsound_l1 m s hm R hR d (j + 1) (by omega) (by rw [h, hg, Bool.true_and])
  simp only [ints_len, ints_app, ints_snoc, ints_take, ints_drop, ints_set, ints_rep, ints_one, ex_rd, dec_t, dec_f, beq_t, beq_f, bne_t, bne_f, not_t, not_f, List.length_set, List.length_append, List.length_cons, List.length_nil, List.length_take, List.length_drop, List.length_replicate, Int.toNat_natCast, List.nil_append, Bool.not_true, Bool.not_false, Wk_nil, Wk_cons, wk1_same, wk1_f, and_true, true_and, Bool.false_eq_true, Bool.true_eq_false, false_implies, forall_const, e]
  refine ⟨fun _ => ⟨by omega, by omega, fun h1 => ⟨fun h2 => bad ?_, fun h2 => ⟨fun h3 => bad ?_, fun h3 => good ?_⟩⟩, fun h1 => good ?_⟩, fun h => by omega⟩
  ·simp; omega
  ·simp; omega
  ·simp; omega
  ·simp; omega
theorem wsound_l0 (m s : List Int) (hm : All64 m) (hs : All64 s) (R : TV → List Ob → Prop) (hR : R (fzB (wrIn m s)) []) : ∀ (d j : Nat) (c : Int), j + d = s.length → 0 ≤ c → c ≤ j → s.all (fun x => decide (0 ≤ x)) = (s.drop j).all (fun x => decide (0 ≤ x)) → zer s = c + zer (s.drop j) →
  wrap_Wrap_sound_L0 R (ints .i64 m) (ints .i64 s) c j
 | 0, j, c, hj, hc0, hc1, h, hz => by
  refine wrap_Wrap_sound_l0 ?_
  unfold wrap_Wrap_sound_R0
  simp only [ints_len, ints_app, ints_snoc, ints_take, ints_drop, ints_set, ints_rep, ints_one, ex_rd, dec_t, dec_f, beq_t, beq_f, bne_t, bne_f, not_t, not_f, List.length_set, List.length_append, List.length_cons, List.length_nil, List.length_take, List.length_drop, List.length_replicate, Int.toNat_natCast, List.nil_append, Bool.not_true, Bool.not_false, Wk_nil, Wk_cons, wk1_same, wk1_f, and_true, true_and, Bool.false_eq_true, Bool.true_eq_false, false_implies, forall_const]
  refine ⟨fun h => by omega, fun _ => ?_⟩
  rw [List.drop_of_length_le (by omega)] at h hz
  unfold wrIn at hR
  rw [h] at hR
  have e : c = zer s := by rw [hz]; simp [zer]
  rw [e]
  exact wsound_l1 m s hm R (by simpa using hR) m.length 0 (by omega) rfl
 | d + 1, j, c, hj, hc0, hc1, h, hz => by
  refine wrap_Wrap_sound_l0 ?_
  unfold wrap_Wrap_sound_R0
  have hl := hs.2
  have e : IntKind.wrap .i64 ((j : Int) + 1) = ((j + 1 : Nat) : Int) := w64 (by omega) (by omega)
  have e2 : IntKind.wrap .i64 (c + 1) = c + 1 := w64 (by omega) (by omega)
  rw [drop_rd s j (by omega)] at h hz
  simp only [List.all_cons, zer] at h hz
  simp only [ints_len, ints_app, ints_snoc, ints_take, ints_drop, ints_set, ints_rep, ints_one, ex_rd, dec_t, dec_f, beq_t, beq_f, bne_t, bne_f, not_t, not_f, List.length_set, List.length_append, List.length_cons, List.length_nil, List.length_take, List.length_drop, List.length_replicate, Int.toNat_natCast, List.nil_append, Bool.not_true, Bool.not_false, Wk_nil, Wk_cons, wk1_same, wk1_f, and_true, true_and, Bool.false_eq_true, Bool.true_eq_false, false_implies, forall_const, e, e2]
  refine ⟨fun _ => ⟨by omega, by omega, fun h1 => ?_, fun h1 => ⟨fun h2 => ?_, fun h2 => ?_⟩⟩, fun h => by omega⟩
  ·unfold wrIn at hR
   rw [h, decide_eq_false (show ¬ 0 ≤ rd s j by omega)] at hR
   simpa using hR
  ·refine wsound_l0 m s hm hs R hR d (j + 1) (c + 1) (by omega) (by omega) (by omega) ?_ ?_
   ·rw [h, decide_eq_true (show 0 ≤ rd s j by omega), Bool.true_and]
   ·rw [hz, if_pos h2]; omega
  ·refine wsound_l0 m s hm hs R hR d (j + 1) c (by omega) (by omega) (by omega) ?_ ?_
   ·rw [h, decide_eq_true (show 0 ≤ rd s j by omega), Bool.true_and]
   ·rw [hz, if_neg h2]; omega
abbrev fzW (m s : List Int) : TV := .agg [.fz (.sl 1 (ints .i64 m)), .fz (.sl 1 (ints .i64 s))]
theorem wsound_ok (m s : List Int) (hm : All64 m) (hs : All64 s) : Fn Tryz.prog 77 [fzW m s] [] (fzB (wrIn m s)) [] := by
 refine wrap_Wrap_sound_fn _ _ ?_
 unfold wrap_Wrap_sound_H
 exact wsound_l0 m s hm hs _ ⟨rfl, rfl⟩ s.length 0 0 (by omega) (by omega) (by omega) rfl (by simp)
theorem wsmall_ok (m s : List Int) : Fn Tryz.prog 76 [fzW m s] [] (fzB (decide (m.length ≤ 256) && decide (s.length ≤ 256))) [] := by
 refine wrap_Wrap_small_fn _ _ ?_
 unfold wrap_Wrap_small_H
 rw [ints_len, ints_len, dec_t, dec_f]
 have e : decide ((s.length : Int) ≤ 256) = decide (s.length ≤ 256) := by rw [decide_eq_decide]; omega
 refine ⟨fun h => ?_, fun h => ?_⟩
 ·rw [e, decide_eq_true (show m.length ≤ 256 by omega)]; exact ⟨rfl, rfl⟩
 ·rw [decide_eq_false (show ¬ m.length ≤ 256 by omega)]; exact ⟨rfl, rfl⟩
theorem wrapSound_ok (m s : List Int) (hm : All64 m) (hs : All64 s) : Fn Tryz.prog 58 [fzW m s] [] (fzB (wrSnd m s)) [] := by
 refine wrap_Sound_fn _ _ ?_
 unfold wrap_Sound_H
 refine ⟨_, wsmall_ok m s, fun h => ⟨_, wsound_ok m s hm hs, ?_⟩, fun h => ?_⟩
 ·unfold wrSnd; rw [← Bool.and_assoc, h]; exact ⟨rfl, rfl⟩
 ·unfold wrSnd; rw [← Bool.and_assoc, h]; exact ⟨rfl, rfl⟩
theorem rsw_l1 (m : List Int) (c : Int) (hm : All64 m) (R : TV → List Ob → Prop) (hR : R (fzB (mOkAt 0 m && (c == (m.length : Int)))) []) : ∀ (d j : Nat), j + d = m.length → mOkAt 0 m = mOkAt j (m.drop j) →
  ref09_soundWrap_L1 R (ints .i64 m) c j
 | 0, j, hj, h => by
  refine ref09_soundWrap_l1 ?_
  unfold ref09_soundWrap_R1
  simp only [ints_len, ints_app, ints_snoc, ints_take, ints_drop, ints_set, ints_rep, ints_one, ex_rd, dec_t, dec_f, beq_t, beq_f, bne_t, bne_f, not_t, not_f, List.length_set, List.length_append, List.length_cons, List.length_nil, List.length_take, List.length_drop, List.length_replicate, Int.toNat_natCast, List.nil_append, Bool.not_true, Bool.not_false, Wk_nil, Wk_cons, wk1_same, wk1_f, and_true, true_and, Bool.false_eq_true, Bool.true_eq_false, false_implies, forall_const]
  refine ⟨fun h => by omega, fun _ => ?_⟩
  rw [h, List.drop_of_length_le (by omega)] at hR
  simpa [mOkAt] using hR
 | d + 1, j, hj, h => by
  refine ref09_soundWrap_l1 ?_
  unfold ref09_soundWrap_R1
  have hl := hm.2
  have e : IntKind.wrap .i64 ((j : Int) + 1) = ((j + 1 : Nat) : Int) := w64 (by omega) (by omega)
  rw [drop_rd m j (by omega)] at h
  simp only [mOkAt] at h
  have bad : (decide (1 ≤ rd m j) || (decide (rd m j = -1) && decide (j = 0))) = false → R (fzB false) [] := fun hb => by
   rw [h, hb] at hR; simpa using hR
  have good : (decide (1 ≤ rd m j) || (decide (rd m j = -1) && decide (j = 0))) = true → ref09_soundWrap_L1 R (ints .i64 m) c ((j + 1 : Nat) : Int) := fun hg =>
   rsw_l1 m c hm R hR d (j + 1) (by omega) (by rw [h, hg, Bool.true_and])
  simp only [ints_len, ints_app, ints_snoc, ints_take, ints_drop, ints_set, ints_rep, ints_one, ex_rd, dec_t, dec_f, beq_t, beq_f, bne_t, bne_f, not_t, not_f, List.length_set, List.length_append, List.length_cons, List.length_nil, List.length_take, List.length_drop, List.length_replicate, Int.toNat_natCast, List.nil_append, Bool.not_true, Bool.not_false, Wk_nil, Wk_cons, wk1_same, wk1_f, and_true, true_and, Bool.false_eq_true, Bool.true_eq_false, false_implies, forall_const, e]
  refine ⟨fun _ => ⟨by omega, by omega, fun h1 => ⟨fun h2 => ⟨by omega, by omega, fun h3 => bad ?_, fun h3 => good ?_⟩, fun h2 => bad ?_⟩, fun h1 => good ?_⟩, fun h => by omega⟩
  ·simp at h3 ⊢; omega
  ·simp at h3 ⊢; omega
  ·simp at h2 ⊢; omega
  ·simp; omega
theorem rsw_l0 (m s : List Int) (hm : All64 m) (hs : All64 s) (R : TV → List Ob → Prop) (hR : R (fzB (wrIn m s)) []) : ∀ (d j : Nat) (c : Int), j + d = s.length → 0 ≤ c → c ≤ j → s.all (fun x => decide (0 ≤ x)) = (s.drop j).all (fun x => decide (0 ≤ x)) → zer s = c + zer (s.drop j) →
  ref09_soundWrap_L0 R (ints .i64 m) (ints .i64 s) c j
 | 0, j, c, hj, hc0, hc1, h, hz => by
  refine ref09_soundWrap_l0 ?_
  unfold ref09_soundWrap_R0
  simp only [ints_len, ints_app, ints_snoc, ints_take, ints_drop, ints_set, ints_rep, ints_one, ex_rd, dec_t, dec_f, beq_t, beq_f, bne_t, bne_f, not_t, not_f, List.length_set, List.length_append, List.length_cons, List.length_nil, List.length_take, List.length_drop, List.length_replicate, Int.toNat_natCast, List.nil_append, Bool.not_true, Bool.not_false, Wk_nil, Wk_cons, wk1_same, wk1_f, and_true, true_and, Bool.false_eq_true, Bool.true_eq_false, false_implies, forall_const]
  refine ⟨fun h => by omega, fun _ => ?_⟩
  rw [List.drop_of_length_le (by omega)] at h hz
  unfold wrIn at hR
  rw [h] at hR
  have e : c = zer s := by rw [hz]; simp [zer]
  rw [e]
  exact rsw_l1 m (zer s) hm R (by simpa using hR) m.length 0 (by omega) rfl
 | d + 1, j, c, hj, hc0, hc1, h, hz => by
  refine ref09_soundWrap_l0 ?_
  unfold ref09_soundWrap_R0
  have hl := hs.2
  have e : IntKind.wrap .i64 ((j : Int) + 1) = ((j + 1 : Nat) : Int) := w64 (by omega) (by omega)
  have e2 : IntKind.wrap .i64 (c + 1) = c + 1 := w64 (by omega) (by omega)
  rw [drop_rd s j (by omega)] at h hz
  simp only [List.all_cons, zer] at h hz
  simp only [ints_len, ints_app, ints_snoc, ints_take, ints_drop, ints_set, ints_rep, ints_one, ex_rd, dec_t, dec_f, beq_t, beq_f, bne_t, bne_f, not_t, not_f, List.length_set, List.length_append, List.length_cons, List.length_nil, List.length_take, List.length_drop, List.length_replicate, Int.toNat_natCast, List.nil_append, Bool.not_true, Bool.not_false, Wk_nil, Wk_cons, wk1_same, wk1_f, and_true, true_and, Bool.false_eq_true, Bool.true_eq_false, false_implies, forall_const, e, e2]
  refine ⟨fun _ => ⟨by omega, by omega, fun h1 => ?_, fun h1 => ⟨by omega, by omega, fun h2 => ?_, fun h2 => ?_⟩⟩, fun h => by omega⟩
  ·unfold wrIn at hR
   rw [h, decide_eq_false (show ¬ 0 ≤ rd s j by omega)] at hR
   simpa using hR
  ·refine rsw_l0 m s hm hs R hR d (j + 1) (c + 1) (by omega) (by omega) (by omega) ?_ ?_
   ·rw [h, decide_eq_true (show 0 ≤ rd s j by omega), Bool.true_and]
   ·rw [hz, if_pos h2]; omega
  ·refine rsw_l0 m s hm hs R hR d (j + 1) c (by omega) (by omega) (by omega) ?_ ?_
   ·rw [h, decide_eq_true (show 0 ≤ rd s j by omega), Bool.true_and]
   ·rw [hz, if_neg h2]; omega
theorem rsw_ok (m s : List Int) (hm : All64 m) (hs : All64 s) : Fn Tryz.prog 100 [fzS .i64 m, fzS .i64 s] [] (fzB (wrIn m s)) [] := by
 refine ref09_soundWrap_fn _ _ ?_
 unfold ref09_soundWrap_H
 exact rsw_l0 m s hm hs _ ⟨rfl, rfl⟩ s.length 0 0 (by omega) (by omega) (by omega) rfl (by simp)
theorem rSoundWrap_ok (m s : List Int) (hm : All64 m) (hs : All64 s) : Fn Tryz.prog 62 [fzS .i64 m, fzS .i64 s] [] (fzB (wrSnd m s)) [] := by
 refine ref09_SoundWrap_fn _ _ ?_
 unfold ref09_SoundWrap_H wrSnd
 rw [ints_len, ints_len, dec_t, dec_f, dec_t, dec_f]
 refine ⟨fun h => ⟨fun h2 => ⟨_, rsw_ok m s hm hs, ?_⟩, fun h2 => ?_⟩, fun h => ?_⟩
 ·rw [decide_eq_true (show m.length ≤ 256 by omega), decide_eq_true (show s.length ≤ 256 by omega)]; exact ⟨rfl, rfl⟩
 ·rw [decide_eq_false (show ¬ s.length ≤ 256 by omega), Bool.false_and, Bool.and_false]; exact ⟨rfl, rfl⟩
 ·rw [decide_eq_false (show ¬ m.length ≤ 256 by omega)]; exact ⟨rfl, rfl⟩
end
section
theorem clone32_ok (l : List Int) (hl : l.length * 4 ≤ 140737488355328) : Fn Tryz.prog 98 [fzS .u32 l] [] (fzS .u32 l) [] := by
 refine slices_Clone_uint32_uint32_fn _ ?_
 unfold slices_Clone_uint32_uint32_H
 simp only [ints_len, ints_app, ints_snoc, ints_take, ints_drop, ints_set, ints_rep, ints_one, ex_rd, dec_t, dec_f, beq_t, beq_f, bne_t, bne_f, not_t, not_f, List.length_set, List.length_append, List.length_cons, List.length_nil, List.length_take, List.length_drop, List.length_replicate, Int.toNat_natCast, List.nil_append, Bool.not_true, Bool.not_false, Wk_nil, Wk_cons, wk1_same, wk1_f, and_true, true_and, Bool.false_eq_true, Bool.true_eq_false, false_implies, forall_const, ints_eq_nil]
 repeat' (first | (with_reducible refine And.intro ?_ ?_) | (with_reducible intro _)); all_goals (try rfl)
 all_goals first | (subst_vars; rfl) | omega
end
section
theorem sameInts_loop (a b : List Int) (ha : a.length * 8 ≤ 140737488355328) (hlen : a.length = b.length) (R : TV → List Ob → Prop) (hR : R (fzB (decide (a = b))) []) : ∀ (d i : Nat), i + d = a.length → a.take i = b.take i → ref02_SameInts_L0 R (ints .i64 a) (ints .i64 b) i
 | 0, i, hi, h => by
  rw [List.take_of_length_le (by omega), List.take_of_length_le (by omega)] at h
  refine ref02_SameInts_l0 ?_
  unfold ref02_SameInts_R0
  simp only [ints_len, ints_app, ints_snoc, ints_take, ints_drop, ints_set, ints_rep, ints_one, ex_rd, dec_t, dec_f, beq_t, beq_f, bne_t, bne_f, not_t, not_f, List.length_set, List.length_append, List.length_cons, List.length_nil, List.length_take, List.length_drop, List.length_replicate, Int.toNat_natCast, List.nil_append, Bool.not_true, Bool.not_false, Wk_nil, Wk_cons, wk1_same, wk1_f, and_true, true_and, Bool.false_eq_true, Bool.true_eq_false, false_implies, forall_const]
  exact ⟨fun h => by omega, fun _ => by simpa [h] using hR⟩
 | d + 1, i, hi, h => by
  refine ref02_SameInts_l0 ?_
  unfold ref02_SameInts_R0
  have e3 : IntKind.wrap .i64 ((i : Int) + 1) = ((i + 1 : Nat) : Int) := w64 (by omega) (by omega)
  simp only [ints_len, ints_app, ints_snoc, ints_take, ints_drop, ints_set, ints_rep, ints_one, ex_rd, dec_t, dec_f, beq_t, beq_f, bne_t, bne_f, not_t, not_f, List.length_set, List.length_append, List.length_cons, List.length_nil, List.length_take, List.length_drop, List.length_replicate, Int.toNat_natCast, List.nil_append, Bool.not_true, Bool.not_false, Wk_nil, Wk_cons, wk1_same, wk1_f, and_true, true_and, Bool.false_eq_true, Bool.true_eq_false, false_implies, forall_const, e3]
  refine ⟨fun _ => ⟨by omega, by omega, by omega, by omega, fun hne => ?_, fun he => ?_⟩, fun h => by omega⟩
  ·have : ¬ a = b := fun e => hne (by rw [e])
   simpa [this] using hR
  ·refine sameInts_loop a b ha hlen R hR d (i + 1) (by omega) ?_
   rw [rd_at a i (by omega), rd_at b i (by omega)] at he
   rw [List.take_succ_eq_append_getElem (by omega), List.take_succ_eq_append_getElem (by omega), h, he]
theorem sameInts_ok (a b : List Int) (ha : a.length * 8 ≤ 140737488355328) : Fn Tryz.prog 65 [fzS .i64 a, fzS .i64 b] [] (fzB (decide (a = b))) [] := by
 refine ref02_SameInts_fn _ _ ?_
 unfold ref02_SameInts_H
 simp only [ints_len, ints_app, ints_snoc, ints_take, ints_drop, ints_set, ints_rep, ints_one, ex_rd, dec_t, dec_f, beq_t, beq_f, bne_t, bne_f, not_t, not_f, List.length_set, List.length_append, List.length_cons, List.length_nil, List.length_take, List.length_drop, List.length_replicate, Int.toNat_natCast, List.nil_append, Bool.not_true, Bool.not_false, Wk_nil, Wk_cons, wk1_same, wk1_f, and_true, true_and, Bool.false_eq_true, Bool.true_eq_false, false_implies, forall_const]
 refine ⟨fun h2 => ?_, fun h2 => ?_⟩
 ·have : ¬ a = b := fun e => h2 (by rw [e])
  simp [this]
 ·exact sameInts_loop a b ha (by omega) _ ⟨rfl, rfl⟩ a.length 0 (by omega) (by simp)
end
section
def slices_Grow_int_intO_lv : List Nat → Keep := lvOf []
def slices_Grow_int_intO_H (R : TV → List Ob → Prop) (n : Int) : Prop :=
 ((((decide (n < 0)) = true) → False) ∧ (((decide (n < 0)) = false) → ((((decide ((0 : Int) < (IntKind.wrap .i64 (n - (IntKind.wrap .i64 (0 - 0)))))) = true) → ((((0 : Int) ≤ 0) ∧ ((0 : Int) ≤ 0)) ∧ ((((0 : Int) ≤ (IntKind.wrap .i64 (n - (IntKind.wrap .i64 (0 - 0))))) ∧ (((IntKind.wrap .i64 (n - (IntKind.wrap .i64 (0 - 0)))) * 8) ≤ 220000000000000)) ∧ ((((0 : Int) ≤ 0) ∧ ((0 : Int) ≤ (((List.length (List.replicate (Int.toNat (IntKind.wrap .i64 (n - (IntKind.wrap .i64 (0 - 0))))) [(FV.int .i64 0)])) : Nat) : Int))) ∧ (R (TV.one (AV.ofl 1 0)) [(Ob.f 3 1 (List.take (Int.toNat 0) (List.replicate (Int.toNat (IntKind.wrap .i64 (n - (IntKind.wrap .i64 (0 - 0))))) [(FV.int .i64 0)])))]))))) ∧ (((decide ((0 : Int) < (IntKind.wrap .i64 (n - (IntKind.wrap .i64 (0 - 0)))))) = false) → (R (TV.one (AV.ofl 1 0)) [(Ob.f 0 1 ([] : LL))])))))
theorem slices_Grow_int_intO_fn (n : Int) {r : TV} {h : List Ob} (H : slices_Grow_int_intO_H (fun r' h' => r' = r ∧ Wk h' h) n) : Fn Tryz.prog 106 [(TV.one (AV.nsl 1)), (TV.one (AV.fz (FV.int .i64 n)))] [] r h :=
 Fn.by_trW (M := (modeOf [] [])) (lv := slices_Grow_int_intO_lv) (own := (some 0)) (F := Tryz.f106) (by kernel_rfl) (by kernel_rfl) (by first | decide | simp) (fun _ _ h => h) (by kernel_rfl) H
def slices_Concat_int_int_lv : List Nat → Keep := lvOf [([0, 1, 0, 1, 1], ⟨3593, 0, [], false, false⟩), ([0, 1, 0, 1, 1, 1, 1], ⟨234881088, 0, [], false, false⟩)]
def slices_Concat_int_int_S0 (ss : LL) (size : Int) (i : Int) : St := (St.mk [(TV.one (AV.fz (FV.sl 1 ss))), TV.und, TV.und, (TV.one (AV.fz (FV.int .i64 size))), TV.und, TV.und, TV.und, TV.und, TV.und, (TV.one (AV.fz (FV.sl 1 ss))), (TV.one (AV.fz (FV.int .i64 (((List.length ss) : Nat) : Int)))), (TV.one (AV.fz (FV.int .i64 i))), TV.und, TV.und, TV.und, TV.und, TV.und, TV.und, TV.und, TV.und, TV.und, TV.und, TV.und, TV.und, TV.und, TV.und, TV.und, TV.und, TV.und, TV.und, TV.und, TV.und, TV.und, TV.und, TV.und, TV.und] [])
def slices_Concat_int_int_L0 (R : TV → List Ob → Prop) (ss : LL) (size : Int) (i : Int) : Prop := LoopAt Tryz.prog (modeOf [] [(106, [(Sig.mk 0 [(false, [(AT.a (AV.ofl 1 0))])] [(OT.f 0 1)] 1)])]) slices_Concat_int_int_lv Tryz.f75 none R [1, 1, 0, 1, 0] (slices_Concat_int_int_S0 ss size i)
def slices_Concat_int_int_S1 (ss : LL) (i1 : Int) (es1 : LL) : St := (St.mk [TV.und, TV.und, TV.und, TV.und, TV.und, TV.und, (TV.one (AV.ofl 1 0)), TV.und, TV.und, TV.und, TV.und, TV.und, TV.und, TV.und, TV.und, TV.und, TV.und, TV.und, TV.und, TV.und, TV.und, TV.und, TV.und, TV.und, TV.und, (TV.one (AV.fz (FV.sl 1 ss))), (TV.one (AV.fz (FV.int .i64 (((List.length ss) : Nat) : Int)))), (TV.one (AV.fz (FV.int .i64 i1))), TV.und, TV.und, TV.und, TV.und, TV.und, TV.und, TV.und, TV.und] [(Ob.f 0 1 es1)])
def slices_Concat_int_int_L1 (R : TV → List Ob → Prop) (ss : LL) (i1 : Int) (es1 : LL) : Prop := LoopAt Tryz.prog (modeOf [] [(106, [(Sig.mk 0 [(false, [(AT.a (AV.ofl 1 0))])] [(OT.f 0 1)] 1)])]) slices_Concat_int_int_lv Tryz.f75 none R [1, 1, 1, 1, 0, 1, 0] (slices_Concat_int_int_S1 ss i1 es1)
def slices_Concat_int_int_R0 (R : TV → List Ob → Prop) (ss : List (List FV)) (size : Int) (i : Int) : Prop :=
 ((((decide (i < (((List.length ss) : Nat) : Int))) = true) → (((0 : Int) ≤ i) ∧ (∃ es6 : LL, (((ss)[(Int.toNat i)]? = (some [(FV.sl 1 es6)])) ∧ ((((decide ((IntKind.wrap .i64 (size + (((List.length es6) : Nat) : Int))) < 0)) = true) → False) ∧ (((decide ((IntKind.wrap .i64 (size + (((List.length es6) : Nat) : Int))) < 0)) = false) → (slices_Concat_int_int_L0 R ss (IntKind.wrap .i64 (size + (((List.length es6) : Nat) : Int))) (IntKind.wrap .i64 (i + 1))))))))) ∧ (((decide (i < (((List.length ss) : Nat) : Int))) = false) → (∃ es7 : LL, ((Fn Tryz.prog 106 [(TV.one (AV.nsl 1)), (TV.one (AV.fz (FV.int .i64 size)))] [] (TV.one (AV.ofl 1 0)) [(Ob.f 0 1 es7)]) ∧ (slices_Concat_int_int_L1 R ss 0 es7)))))
theorem slices_Concat_int_int_l0 {R : TV → List Ob → Prop} {ss : LL} {size : Int} {i : Int} (h : slices_Concat_int_int_R0 R ss size i) : slices_Concat_int_int_L0 R ss size i :=
 LoopAt.by_tr (by kernel_rfl) (by kernel_rfl) h
def slices_Concat_int_int_R1 (R : TV → List Ob → Prop) (ss : List (List FV)) (i1 : Int) (es1 : List (List FV)) : Prop :=
 ((((decide (i1 < (((List.length ss) : Nat) : Int))) = true) → (((0 : Int) ≤ i1) ∧ (∃ es6 : LL, (((ss)[(Int.toNat i1)]? = (some [(FV.sl 1 es6)])) ∧ (((((List.length es1) + (List.length es6)) * 8) ≤ 220000000000000) ∧ (slices_Concat_int_int_L1 R ss (IntKind.wrap .i64 (i1 + 1)) (es1 ++ es6))))))) ∧ (((decide (i1 < (((List.length ss) : Nat) : Int))) = false) → (R (TV.one (AV.fz (FV.sl 1 es1))) [])))
theorem slices_Concat_int_int_l1 {R : TV → List Ob → Prop} {ss : LL} {i1 : Int} {es1 : LL} (h : slices_Concat_int_int_R1 R ss i1 es1) : slices_Concat_int_int_L1 R ss i1 es1 :=
 LoopAt.by_tr (by kernel_rfl) (by kernel_rfl) h
def slices_Concat_int_int_H (R : TV → List Ob → Prop) (ss : List (List FV)) : Prop :=
 (slices_Concat_int_int_L0 R ss 0 0)
theorem slices_Concat_int_int_fn (ss : LL) {r : TV} {h : List Ob} (H : slices_Concat_int_int_H (fun r' h' => r' = r ∧ h' = h) ss) : Fn Tryz.prog 75 [(TV.one (AV.fz (FV.sl 1 ss)))] [] r h :=
 Fn.by_tr (M := (modeOf [] [(106, [(Sig.mk 0 [(false, [(AT.a (AV.ofl 1 0))])] [(OT.f 0 1)] 1)])])) (lv := slices_Concat_int_int_lv) (own := none) (F := Tryz.f75) (by kernel_rfl) (by kernel_rfl) (by first | decide | simp) (fun _ _ h => h) (by kernel_rfl) H
end
section
theorem grow_ok (n : Int) (h0 : 0 ≤ n) (h1 : n ≤ 1000000000) : Fn Tryz.prog 106 [.one (.nsl 1), fzI .i64 n] [] (.one (.ofl 1 0)) [.f 0 1 []] := by
 refine slices_Grow_int_intO_fn _ ?_
 unfold slices_Grow_int_intO_H
 have e0 : IntKind.wrap .i64 (0 - 0) = 0 := w64 (by omega) (by omega)
 have e1 : IntKind.wrap .i64 (n - 0) = n := by rw [w64 (by omega) (by omega)]; omega
 rw [e0, e1, dec_t, dec_f, dec_t, dec_f]
 refine ⟨fun h => by omega, fun _ => ⟨fun h => ⟨⟨by omega, by omega⟩, ⟨by omega, by omega⟩, ⟨by omega, ?_⟩, rfl, ?_⟩, fun h => ⟨rfl, ?_⟩⟩⟩
 ·omega
 ·exact ⟨wk1_f.2 ⟨rfl, rfl⟩, trivial⟩
 ·exact ⟨wk1_f.2 ⟨rfl, rfl⟩, trivial⟩
theorem concat_loop0 (ss : List (List Int)) (hl : ss.length ≤ 1000) (hs : ∀ x ∈ ss, x.length ≤ 1000000) (R : TV → List Ob → Prop) (hk : ∀ n : Int, slices_Concat_int_int_L1 R (ss.map fun x => [.sl 1 (ints .i64 x)]) 0 []) :
  ∀ (d j : Nat) (z : Int), j + d = ss.length → 0 ≤ z → z ≤ 1000000 * j → slices_Concat_int_int_L0 R (ss.map fun x => [.sl 1 (ints .i64 x)]) z j
 | 0, j, z, hj, h0, h1 => by
  refine slices_Concat_int_int_l0 ?_
  unfold slices_Concat_int_int_R0
  rw [List.length_map, dec_t, dec_f]
  exact ⟨fun h => by omega, fun _ => ⟨_, grow_ok z h0 (by omega), hk 0⟩⟩
 | d + 1, j, z, hj, h0, h1 => by
  refine slices_Concat_int_int_l0 ?_
  unfold slices_Concat_int_int_R0
  have hx := hs ss[j] (List.getElem_mem _)
  have hg : (ss.map fun x => [FV.sl 1 (ints .i64 x)])[j]? = some [.sl 1 (ints .i64 ss[j])] := by simp [show j < ss.length by omega]
  have e : IntKind.wrap .i64 ((j : Int) + 1) = ((j + 1 : Nat) : Int) := w64 (by omega) (by omega)
  rw [List.length_map, dec_t, dec_f, Int.toNat_natCast, e]
  refine ⟨fun _ => ⟨by omega, _, hg, ?_⟩, fun h => by omega⟩
  have e2 : IntKind.wrap .i64 (z + ((ss[j].length : Nat) : Int)) = z + ((ss[j].length : Nat) : Int) := w64 (by omega) (by omega)
  rw [ints_len, e2, dec_t, dec_f]
  refine ⟨fun h => by omega, fun _ => concat_loop0 ss hl hs R hk d (j + 1) _ (by omega) (by omega) (by omega)⟩
theorem concat_loop1 (ss : List (List Int)) (hl : ss.length ≤ 1000) (hs : ∀ x ∈ ss, x.length ≤ 1000000) (R : TV → List Ob → Prop) (hR : R (fzS .i64 ss.flatten) []) :
  ∀ (d j : Nat), j + d = ss.length → (ss.take j).flatten.length ≤ 1000000 * j → slices_Concat_int_int_L1 R (ss.map fun x => [.sl 1 (ints .i64 x)]) j (ints .i64 (ss.take j).flatten)
 | 0, j, hj, h1 => by
  refine slices_Concat_int_int_l1 ?_
  unfold slices_Concat_int_int_R1
  rw [List.length_map, dec_t, dec_f]
  refine ⟨fun h => by omega, fun _ => ?_⟩
  rw [List.take_of_length_le (by omega)]; exact hR
 | d + 1, j, hj, h1 => by
  refine slices_Concat_int_int_l1 ?_
  unfold slices_Concat_int_int_R1
  have hx := hs ss[j] (List.getElem_mem _)
  have hg : (ss.map fun x => [FV.sl 1 (ints .i64 x)])[j]? = some [.sl 1 (ints .i64 ss[j])] := by simp [show j < ss.length by omega]
  have e : IntKind.wrap .i64 ((j : Int) + 1) = ((j + 1 : Nat) : Int) := w64 (by omega) (by omega)
  have ht : ss.take (j + 1) = ss.take j ++ [ss[j]] := List.take_succ_eq_append_getElem (by omega)
  have hf : (ss.take (j + 1)).flatten = (ss.take j).flatten ++ ss[j] := by rw [ht, List.flatten_append]; simp only [List.flatten_cons, List.flatten_nil, List.append_nil]
  rw [List.length_map, dec_t, dec_f, Int.toNat_natCast, e]
  refine ⟨fun _ => ⟨by omega, _, hg, ?_⟩, fun h => by omega⟩
  rw [ints_len, ints_len, ints_app, ← hf]
  exact ⟨by omega, concat_loop1 ss hl hs R hR d (j + 1) (by omega) (by rw [hf, List.length_append]; omega)⟩
theorem concat_ok (m n : List Int) (hm : m.length ≤ 1000000) (hn : n.length ≤ 1000000) : Fn Tryz.prog 75 [.one (.fz (.sl 1 [[.sl 1 (ints .i64 m)], [.sl 1 (ints .i64 n)]]))] [] (fzS .i64 (m ++ n)) [] := by
 refine slices_Concat_int_int_fn _ ?_
 unfold slices_Concat_int_int_H
 have hs : ∀ x ∈ [m, n], x.length ≤ 1000000 := fun x hx => by
  rcases List.mem_cons.1 hx with rfl | hx
  ·exact hm
  ·rw [List.mem_singleton.1 hx]; exact hn
 have e : ([m, n] : List (List Int)).flatten = m ++ n := by simp
 exact concat_loop0 [m, n] (by simp) hs _ (fun _ => concat_loop1 [m, n] (by simp) hs _ (by rw [e]; exact ⟨rfl, rfl⟩) 2 0 rfl (by simp)) 2 0 0 rfl (by omega) (by omega)
end
section
def cnP (m s n t : List Int) : Prop := 0 < m.length ∧ 0 < s.length ∧ 0 < n.length ∧ 0 < t.length ∧ rd m (m.length - 1) ≠ -1 ∧ rd n 0 = -1 ∧ rd s (s.length - 1) = 0 ∧ rd t 0 = 0
instance (m s n t : List Int) : Decidable (cnP m s n t) := by unfold cnP; infer_instance
theorem rd_int {l : List Int} {i : Nat} (h : i < l.length) : (ints .i64 l)[i]? = some [.int .i64 (rd l i)] := by simp [ints, rd_at l i h, h]
theorem cancels_ok (m s n t : List Int) (hm : All64 m) (hs : All64 s) : Fn Tryz.prog 74 [fzW m s, fzW n t] [] (fzB (decide (cnP m s n t))) [] := by
 refine wrap_cancels_fn _ _ _ _ ?_
 obtain ⟨R, hR, hRe⟩ := exR (fzB (decide (cnP m s n t)))
 rw [hRe]
 clear hRe
 unfold wrap_cancels_H
 have l1 := hm.2
 have l2 := hs.2
 simp only [ints_len, dec_t, dec_f]
 have bad : ¬ cnP m s n t → R (fzB false) [] := fun h => by rw [decide_eq_false h] at hR; exact hR
 refine ⟨fun h1 => ⟨fun h2 => ⟨fun h3 => ⟨fun h4 => ?_, fun h4 => bad fun hc => h4 (by have := hc.2.2.2.1; omega)⟩, fun h3 => bad fun hc => h3 (by have := hc.2.2.1; omega)⟩, fun h2 => bad fun hc => h2 (by have := hc.2.1; omega)⟩, fun h1 => bad fun hc => h1 (by have := hc.1; omega)⟩
 have e1 : IntKind.wrap .i64 ((m.length : Int) - 1) = ((m.length - 1 : Nat) : Int) := by rw [w64 (by omega) (by omega)]; omega
 have e2 : IntKind.wrap .i64 ((s.length : Int) - 1) = ((s.length - 1 : Nat) : Int) := by rw [w64 (by omega) (by omega)]; omega
 rw [e1, e2, Int.toNat_natCast, Int.toNat_natCast]
 refine ⟨by omega, _, rd_int (by omega), ?_⟩
 rw [bne_t, bne_f]
 refine ⟨fun h5 => ⟨by omega, _, rd_int (i := 0) (by omega), ?_⟩, fun h5 => bad fun hc => hc.2.2.2.2.1 h5⟩
 rw [beq_t, beq_f]
 refine ⟨fun h6 => ⟨by omega, _, rd_int (by omega), ?_⟩, fun h6 => bad fun hc => h6 hc.2.2.2.2.2.1⟩
 rw [beq_t, beq_f]
 refine ⟨fun h7 => ⟨by omega, _, rd_int (i := 0) (by omega), ?_⟩, fun h7 => bad fun hc => h7 hc.2.2.2.2.2.2.1⟩
 have e : (rd t 0 == 0) = decide (cnP m s n t) := by
  rw [Bool.eq_iff_iff]
  simp only [beq_iff_eq, decide_eq_true_eq]
  exact ⟨fun h => ⟨by omega, by omega, by omega, by omega, h5, h6, h7, h⟩, fun h => h.2.2.2.2.2.2.2⟩
 have e3 : (Int.toNat 0) = 0 := rfl
 rw [e]; exact hR
def jnM (m s n t : List Int) : List Int := if cnP m s n t then m.take (m.length - 1) ++ n.drop 1 else m ++ n
def jnS (m s n t : List Int) : List Int := if cnP m s n t then s.take (s.length - 1) ++ t.drop 1 else s ++ t
def jnE (m s n t : List Int) : Int :=
 if (wrSnd m s && wrSnd n t) = true then (if (jnM m s n t).length ≤ 256 ∧ (jnS m s n t).length ≤ 256 then (if wrIn (jnM m s n t) (jnS m s n t) = true then 0 else 2) else 6) else 2
def joM (m s n t : List Int) : List Int := if jnE m s n t = 0 then jnM m s n t else []
def joS (m s n t : List Int) : List Int := if jnE m s n t = 0 then jnS m s n t else []
abbrev wT (M S : List Int) (e : Int) : TV := .tup [(true, [.fz (.sl 1 (ints .i64 M)), .fz (.sl 1 (ints .i64 S))]), (false, [.fz (.int .i64 e)])]
abbrev jnT (m s n t : List Int) : TV := wT (joM m s n t) (joS m s n t) (jnE m s n t)
theorem snd_len {m s : List Int} (h : wrSnd m s = true) : m.length ≤ 256 ∧ s.length ≤ 256 := by
 unfold wrSnd at h
 simp only [Bool.and_eq_true, decide_eq_true_eq] at h
 exact ⟨h.1, h.2.1⟩
theorem all64_app {a b : List Int} (ha : ∀ x ∈ a, I64 x) (hb : ∀ x ∈ b, I64 x) (hl : (a ++ b).length ≤ 1000) : All64 (a ++ b) :=
 ⟨fun x hx => by rcases List.mem_append.1 hx with h | h; exact ha x h; exact hb x h, by omega⟩
theorem jn_all {m s n t : List Int} (hm : All64 m) (hs : All64 s) (hn : All64 n) (ht : All64 t) (h : (wrSnd m s && wrSnd n t) = true) : All64 (jnM m s n t) ∧ All64 (jnS m s n t) := by
 rw [Bool.and_eq_true] at h
 obtain ⟨l1, l2⟩ := snd_len h.1
 obtain ⟨l3, l4⟩ := snd_len h.2
 unfold jnM jnS
 split
 ·exact ⟨all64_app (fun x hx => hm.1 x (List.mem_of_mem_take hx)) (fun x hx => hn.1 x (List.mem_of_mem_drop hx)) (by simp; omega), all64_app (fun x hx => hs.1 x (List.mem_of_mem_take hx)) (fun x hx => ht.1 x (List.mem_of_mem_drop hx)) (by simp; omega)⟩
 ·exact ⟨all64_app hm.1 hn.1 (by simp; omega), all64_app hs.1 ht.1 (by simp; omega)⟩
theorem all64_nil : All64 [] := ⟨by simp, by simp⟩
theorem jo_all {m s n t : List Int} (hm : All64 m) (hs : All64 s) (hn : All64 n) (ht : All64 t) : All64 (joM m s n t) ∧ All64 (joS m s n t) := by
 unfold joM joS
 split
 ·rename_i h
  have h2 : (wrSnd m s && wrSnd n t) = true := by
   by_cases h2 : (wrSnd m s && wrSnd n t) = true
   ·exact h2
   ·unfold jnE at h
    rw [if_neg h2] at h; omega
  exact jn_all hm hs hn ht h2
 ·exact ⟨all64_nil, all64_nil⟩
theorem jnT_ok {m s n t : List Int} (h : jnE m s n t = 0) : jnT m s n t = wT (jnM m s n t) (jnS m s n t) 0 := by
 unfold jnT joM joS; rw [if_pos h, if_pos h, h]
theorem jnT_bad {m s n t : List Int} {e : Int} (h : jnE m s n t = e) (he : e ≠ 0) : jnT m s n t = .tup [(true, [.fz (.sl 1 ([] : List (List FV))), .fz (.sl 1 ([] : List (List FV)))]), (false, [.fz (.int .i64 e)])] := by
 unfold jnT joM joS; rw [if_neg (by omega), if_neg (by omega), h]; rfl
theorem join_ok (m s n t : List Int) (hm : All64 m) (hs : All64 s) (hn : All64 n) (ht : All64 t) : Fn Tryz.prog 32 [fzW m s, fzW n t] [] (jnT m s n t) [] := by
 refine wrap_Join_fn _ _ _ _ ?_
 obtain ⟨R, hR, hRe⟩ := exR (jnT m s n t)
 rw [hRe]
 clear hRe
 unfold wrap_Join_H
 have bad2 : (wrSnd m s && wrSnd n t) = false → R (.tup [(true, [.fz (.sl 1 ([] : List (List FV))), .fz (.sl 1 ([] : List (List FV)))]), (false, [.fz (.int .i64 2)])]) [] := fun h => by
  rw [jnT_bad (e := 2) (by unfold jnE; rw [if_neg (by rw [h]; simp)]) (by omega)] at hR; exact hR
 refine ⟨_, wrapSound_ok m s hm hs, ?_⟩
 rw [not_t, not_f]
 refine ⟨fun h => bad2 (by rw [h, Bool.false_and]), fun h1 => ⟨_, wrapSound_ok n t hn ht, ?_⟩⟩
 rw [not_t, not_f]
 refine ⟨fun h => bad2 (by rw [h, Bool.and_false]), fun h2 => ⟨_, cancels_ok m s n t hm hs, ?_⟩⟩
 have h12 : (wrSnd m s && wrSnd n t) = true := by rw [h1, h2]; rfl
 obtain ⟨l1, l2⟩ := snd_len h1
 obtain ⟨l3, l4⟩ := snd_len h2
 obtain ⟨hM, hS⟩ := jn_all hm hs hn ht h12
 have last : ∃ b10 : Bool, Fn Tryz.prog 76 [fzW (jnM m s n t) (jnS m s n t)] [] (fzB b10) [] ∧
   ((Bool.not b10) = true → R (.tup [(true, [.fz (.sl 1 ([] : List (List FV))), .fz (.sl 1 ([] : List (List FV)))]), (false, [.fz (.int .i64 6)])]) []) ∧
   ((Bool.not b10) = false → ∃ b11 : Bool, Fn Tryz.prog 77 [fzW (jnM m s n t) (jnS m s n t)] [] (fzB b11) [] ∧
    ((Bool.not b11) = true → R (.tup [(true, [.fz (.sl 1 ([] : List (List FV))), .fz (.sl 1 ([] : List (List FV)))]), (false, [.fz (.int .i64 2)])]) []) ∧
    ((Bool.not b11) = false → R (wT (jnM m s n t) (jnS m s n t) 0) [])) := by
  refine ⟨_, wsmall_ok _ _, ?_⟩
  rw [not_t, not_f]
  refine ⟨fun h => ?_, fun h => ⟨_, wsound_ok _ _ hM hS, ?_⟩⟩
  ·rw [jnT_bad (e := 6) (by unfold jnE; rw [if_pos h12, if_neg (fun hx => by rw [decide_eq_true hx.1, decide_eq_true hx.2] at h; cases h)]) (by omega)] at hR; exact hR
  ·simp only [Bool.and_eq_true, decide_eq_true_eq] at h
   rw [not_t, not_f]
   refine ⟨fun h5 => ?_, fun h5 => ?_⟩
   ·rw [jnT_bad (e := 2) (by unfold jnE; rw [if_pos h12, if_pos h, if_neg (by rw [h5]; simp)]) (by omega)] at hR; exact hR
   ·rw [jnT_ok (by unfold jnE; rw [if_pos h12, if_pos h, if_pos h5])] at hR; exact hR
 rw [dec_t, dec_f]
 refine ⟨fun hc => ?_, fun hc => ?_⟩
 ·have e1 : IntKind.wrap .i64 ((m.length : Int) - 1) = ((m.length - 1 : Nat) : Int) := by rw [w64 (by omega) (by omega)]; have := hc.1; omega
  have e2 : IntKind.wrap .i64 ((s.length : Int) - 1) = ((s.length - 1 : Nat) : Int) := by rw [w64 (by omega) (by omega)]; have := hc.2.1; omega
  have c1 := concat_ok (m.take (m.length - 1)) (n.drop 1) (by simp; omega) (by simp; omega)
  have c2 := concat_ok (s.take (s.length - 1)) (t.drop 1) (by simp; omega) (by simp; omega)
  have eM : m.take (m.length - 1) ++ n.drop 1 = jnM m s n t := by unfold jnM; rw [if_pos hc]
  have eS : s.take (s.length - 1) ++ t.drop 1 = jnS m s n t := by unfold jnS; rw [if_pos hc]
  rw [eM] at c1
  rw [eS] at c2
  rw [ints_len, ints_len, ints_len, ints_len, e1, e2, Int.toNat_natCast, Int.toNat_natCast, show Int.toNat 1 = 1 from rfl, ints_take, ints_take, ints_drop, ints_drop]
  obtain ⟨p1, p2, p3, p4, _⟩ := hc
  exact ⟨⟨by omega, by omega⟩, ⟨by omega, by omega⟩, ⟨by omega, by omega⟩, ⟨by omega, by omega⟩, _, c1, _, c2, last⟩
 ·have c1 := concat_ok m n (by omega) (by omega)
  have c2 := concat_ok s t (by omega) (by omega)
  have eM : m ++ n = jnM m s n t := by unfold jnM; rw [if_neg hc]
  have eS : s ++ t = jnS m s n t := by unfold jnS; rw [if_neg hc]
  rw [eM] at c1
  rw [eS] at c2
  exact ⟨_, c1, _, c2, last⟩
end
section
abbrev wT3 (M S : List Int) (e : Int) : TV := .tup [(false, [.fz (.sl 1 (ints .i64 M))]), (false, [.fz (.sl 1 (ints .i64 S))]), (false, [.fz (.int .i64 e)])]
abbrev wBad (e : Int) : TV := .tup [(false, [.fz (.sl 1 ([] : List (List FV)))]), (false, [.fz (.sl 1 ([] : List (List FV)))]), (false, [.fz (.int .i64 e)])]
theorem rjoin_tail (m s n t : List Int) (h12 : (wrSnd m s && wrSnd n t) = true) (hM : All64 (jnM m s n t)) (hS : All64 (jnS m s n t)) (R : TV → List Ob → Prop) (hR : R (wT3 (joM m s n t) (joS m s n t) (jnE m s n t)) []) :
  ((256 : Int) < (((jnM m s n t).length : Nat) : Int) → R (wBad 6) []) ∧ (¬ (256 : Int) < (((jnM m s n t).length : Nat) : Int) → ((256 : Int) < (((jnS m s n t).length : Nat) : Int) → R (wBad 6) []) ∧ (¬ (256 : Int) < (((jnS m s n t).length : Nat) : Int) →
   ∃ b : Bool, Fn Tryz.prog 100 [fzS .i64 (jnM m s n t), fzS .i64 (jnS m s n t)] [] (fzB b) [] ∧ (b = false → R (wBad 2) []) ∧ (b = true → R (wT3 (jnM m s n t) (jnS m s n t) 0) []))) := by
 unfold joM joS at hR
 have go : ∀ e : Int, e ≠ 0 → jnE m s n t = e → R (wBad e) [] := fun e he h => by rw [if_neg (by omega), if_neg (by omega), h] at hR; exact hR
 refine ⟨fun h => go 6 (by omega) ?_, fun h1 => ⟨fun h => go 6 (by omega) ?_, fun h2 => ⟨_, rsw_ok _ _ hM hS, fun h => go 2 (by omega) ?_, fun h => ?_⟩⟩⟩
 ·unfold jnE; rw [if_pos h12, if_neg (by omega)]
 ·unfold jnE; rw [if_pos h12, if_neg (by omega)]
 ·unfold jnE; rw [if_pos h12, if_pos (by omega), if_neg (by rw [h]; simp)]
 ·have : jnE m s n t = 0 := by unfold jnE; rw [if_pos h12, if_pos (by omega), if_pos h]
  rw [if_pos this, if_pos this, this] at hR; exact hR
set_option maxHeartbeats 2000000 in
theorem rJoin_ok (m s n t : List Int) (hm : All64 m) (hs : All64 s) (hn : All64 n) (ht : All64 t) : Fn Tryz.prog 63 [fzS .i64 m, fzS .i64 s, fzS .i64 n, fzS .i64 t] [] (wT3 (joM m s n t) (joS m s n t) (jnE m s n t)) [] := by
 refine ref09_Join_fn _ _ _ _ ?_
 obtain ⟨R, hR, hRe⟩ := exR (wT3 (joM m s n t) (joS m s n t) (jnE m s n t))
 rw [hRe]
 clear hRe
 unfold ref09_Join_H
 have bad2 : (wrSnd m s && wrSnd n t) = false → R (wBad 2) [] := fun h => by
  have h0 : jnE m s n t = 2 := by unfold jnE; rw [if_neg (by rw [h]; simp)]
  unfold joM joS at hR
  rw [if_neg (by omega), if_neg (by omega), h0] at hR; exact hR
 refine ⟨_, rSoundWrap_ok m s hm hs, ?_⟩
 rw [not_t, not_f]
 refine ⟨fun h => bad2 (by rw [h, Bool.false_and]), fun h1 => ⟨_, rSoundWrap_ok n t hn ht, ?_⟩⟩
 rw [not_t, not_f]
 refine ⟨fun h => bad2 (by rw [h, Bool.and_false]), fun h2 => ?_⟩
 have h12 : (wrSnd m s && wrSnd n t) = true := by rw [h1, h2]; rfl
 obtain ⟨l1, l2⟩ := snd_len h1
 obtain ⟨l3, l4⟩ := snd_len h2
 obtain ⟨hM, hS⟩ := jn_all hm hs hn ht h12
 have tail := rjoin_tail m s n t h12 hM hS R hR
 simp only [ints_len, ints_app, List.nil_append, List.length_nil, dec_t, dec_f, not_t, not_f]
 have nc : ¬ cnP m s n t → (0 + m.length) * 8 ≤ 220000000000000 ∧ (m.length + n.length) * 8 ≤ 220000000000000 ∧ (0 + s.length) * 8 ≤ 220000000000000 ∧ (s.length + t.length) * 8 ≤ 220000000000000 ∧
   ((256 : Int) < (((m ++ n).length : Nat) : Int) → R (wBad 6) []) ∧ (¬ (256 : Int) < (((m ++ n).length : Nat) : Int) → ((256 : Int) < (((s ++ t).length : Nat) : Int) → R (wBad 6) []) ∧ (¬ (256 : Int) < (((s ++ t).length : Nat) : Int) →
   ∃ b : Bool, Fn Tryz.prog 100 [fzS .i64 (m ++ n), fzS .i64 (s ++ t)] [] (fzB b) [] ∧ (b = false → R (wBad 2) []) ∧ (b = true → R (wT3 (m ++ n) (s ++ t) 0) []))) := fun hc => by
  have eM : jnM m s n t = m ++ n := by unfold jnM; rw [if_neg hc]
  have eS : jnS m s n t = s ++ t := by unfold jnS; rw [if_neg hc]
  rw [eM, eS] at tail
  exact ⟨by omega, by omega, by omega, by omega, tail⟩
 refine ⟨fun c1 => ⟨fun c2 => ⟨fun c3 => ⟨fun c4 => ?_, fun c4 => nc fun hc => c4 (by have := hc.2.2.2.1; omega)⟩, fun c3 => nc fun hc => c3 (by have := hc.2.2.1; omega)⟩, fun c2 => nc fun hc => c2 (by have := hc.2.1; omega)⟩, fun c1 => nc fun hc => c1 (by have := hc.1; omega)⟩
 have e1 : IntKind.wrap .i64 ((m.length : Int) - 1) = ((m.length - 1 : Nat) : Int) := by rw [w64 (by omega) (by omega)]; omega
 have e2 : IntKind.wrap .i64 ((s.length : Int) - 1) = ((s.length - 1 : Nat) : Int) := by rw [w64 (by omega) (by omega)]; omega
 rw [e1, e2, Int.toNat_natCast, Int.toNat_natCast]
 refine ⟨by omega, _, rd_int (i := 0) (by omega), ?_⟩
 rw [beq_t, beq_f]
 refine ⟨fun c5 => ⟨by omega, _, rd_int (by omega), ?_⟩, fun c5 => nc fun hc => c5 hc.2.2.2.2.2.1⟩
 rw [bne_t, bne_f]
 refine ⟨fun c6 => ⟨by omega, _, rd_int (by omega), ?_⟩, fun c6 => nc fun hc => hc.2.2.2.2.1 c6⟩
 rw [beq_t, beq_f]
 refine ⟨fun c7 => ⟨by omega, _, rd_int (i := 0) (by omega), ?_⟩, fun c7 => nc fun hc => c7 hc.2.2.2.2.2.2.1⟩
 rw [beq_t, beq_f]
 refine ⟨fun c8 => ?_, fun c8 => nc fun hc => c8 hc.2.2.2.2.2.2.2⟩
 have hc : cnP m s n t := ⟨by omega, by omega, by omega, by omega, c6, c5, c7, c8⟩
 have eM : jnM m s n t = m.take (m.length - 1) ++ n.drop 1 := by unfold jnM; rw [if_pos hc]
 have eS : jnS m s n t = s.take (s.length - 1) ++ t.drop 1 := by unfold jnS; rw [if_pos hc]
 rw [eM, eS] at tail
 simp only [ints_take, ints_drop, ints_len, ints_app, show Int.toNat 1 = 1 from rfl]
 exact ⟨⟨by omega, by omega⟩, ⟨by omega, by omega⟩, ⟨by omega, by omega⟩, ⟨by omega, by omega⟩, by simp; omega, by simp; omega, by simp; omega, by simp; omega, tail⟩
end
section
mutual
def Sx.dt : Sx → Dt
 | .mk k t n l xs a m s => .mk k t n l (Sx.dts xs) a
def Sx.dts : List Sx → List Dt
 | [] => []
 | x :: xs => x.dt :: Sx.dts xs
end
theorem dts_len : ∀ ds : List Sx, (Sx.dts ds).length = ds.length
 | [] => by simp [Sx.dts]
 | d :: ds => by simp [Sx.dts, dts_len ds]
theorem dts_app : ∀ a b : List Sx, Sx.dts (a ++ b) = Sx.dts a ++ Sx.dts b
 | [], b => by simp [Sx.dts]
 | d :: a, b => by simp [Sx.dts, dts_app a b]
mutual
theorem dt_ok : ∀ (x : Sx), x.ok → x.dt.ok
 | .mk k t n l xs a m u, hok => by
  unfold Sx.ok at hok
  obtain ⟨h1, h2, h3, h4, h5, h6, h7, _⟩ := hok
  have h8 := dts_ok xs h6
  unfold Sx.dt Dt.ok
  exact ⟨h1, h2, h3, h4, by rw [dts_len]; exact h5, h8, h7⟩
theorem dts_ok : ∀ (xs : List Sx), Sx.oks xs → Dt.oks (Sx.dts xs)
 | [], hok => by simp [Sx.dts, Dt.oks]
 | y :: xs, hok => by
  unfold Sx.oks at hok
  have h1 := dt_ok y hok.1
  have h2 := dts_ok xs hok.2
  unfold Sx.dts Dt.oks
  exact ⟨h1, h2⟩
end
theorem sbare_loop (k : Int) (t : ByteArray) (n : Bool) (l : List Int) (a : Int) (xs : List Sx) (hl : xs.length ≤ 1048576) (hp : ∀ x ∈ xs, Fn Tryz.prog 72 [fzX x] [] (fzD x.dt) [])
  (R : TV → List Ob → Prop) (hR : R (fzD (.mk k t n l (Sx.dts xs) a)) []) : ∀ (d j : Nat), j + d = xs.length → stx_bare_L0 R k t n (Sx.rows xs) a j (ints .u32 l) (Dt.rows (Sx.dts (xs.take j)))
 | 0, j, hj => by
  refine stx_bare_l0 ?_
  unfold stx_bare_R0
  rw [srows_len, dec_t, dec_f]
  refine ⟨fun h => by omega, fun _ => ?_⟩
  rw [List.take_of_length_le (by omega)]
  unfold fzD at hR
  simp only [Dt.row, List.map_cons, List.map_nil] at hR
  exact hR
 | d + 1, j, hj => by
  have hF := hp xs[j] (List.getElem_mem _)
  have hr := srow_at (List.getElem?_eq_getElem (show j < xs.length by omega))
  have ht : xs.take (j + 1) = xs.take j ++ [xs[j]] := List.take_succ_eq_append_getElem (by omega)
  have ih := sbare_loop k t n l a xs hl hp R hR d (j + 1) (by omega)
  rw [ht, dts_app, rows_app] at ih
  generalize xs[j] = y at hF hr ih
  obtain ⟨k', t', n', l', ys, a', m', u'⟩ := y
  unfold fzD fzX at hF
  simp only [Dt.row, Sx.dt, Sx.dts, Sx.row, Dt.rows, List.map_cons, List.map_nil] at hF hr ih
  refine stx_bare_l0 ?_
  unfold stx_bare_R0
  have e : IntKind.wrap .i64 ((j : Int) + 1) = ((j + 1 : Nat) : Int) := w64 (by omega) (by omega)
  rw [srows_len, dec_t, dec_f, e]
  refine ⟨fun _ => ⟨by omega, _, _, _, _, _, _, _, _, hr, _, _, _, _, _, _, hF, ?_, ih⟩, fun h => by omega⟩
  rw [rows_len, dts_len, List.length_take, List.length_singleton]
  omega
mutual
theorem sbare_ok : ∀ (x : Sx), x.ok → Fn Tryz.prog 72 [fzX x] [] (fzD x.dt) []
 | .mk k t n l xs a m u, hok => by
  unfold Sx.ok at hok
  obtain ⟨_, _, _, hl4, hxl, hxs, _⟩ := hok
  have hall := sbare_all xs hxs
  unfold fzX
  simp only [Sx.row, List.map_cons, List.map_nil]
  refine stx_bare_fn _ _ _ _ _ _ _ _ ?_
  obtain ⟨R, hR, hRe⟩ := exR (fzD (Sx.dt (.mk k t n l xs a m u)))
  rw [hRe]
  clear hRe
  unfold stx_bare_H
  unfold Sx.dt at hR
  have := sbare_loop k t n l a xs hxl hall R hR xs.length 0 (by omega)
  exact ⟨_, clone32_ok l hl4, by simpa [Sx.dts, Dt.rows] using this⟩
theorem sbare_all : ∀ (xs : List Sx), Sx.oks xs → ∀ x ∈ xs, Fn Tryz.prog 72 [fzX x] [] (fzD x.dt) []
 | [], hok => fun x hx => by cases hx
 | y :: xs, hok => fun x hx => by
  unfold Sx.oks at hok
  have h1 := sbare_ok y hok.1
  have h2 := sbare_all xs hok.2
  rcases List.mem_cons.1 hx with rfl | hx
  ·exact h1
  ·exact h2 x hx
end
mutual
def Sx.jnd : Sx → List Int → List Int → Bool
 | .mk _ _ _ _ xs _ m u, M, S => decide (jnE M S m u = 0) && Sx.jndL xs (joM M S m u) (joS M S m u)
def Sx.jndL : List Sx → List Int → List Int → Bool
 | [], _, _ => true
 | x :: xs, M, S => x.jnd M S && Sx.jndL xs M S
end
theorem jndL_any (M S : List Int) : ∀ xs : List Sx, xs.any (fun x => !x.jnd M S) = !Sx.jndL xs M S
 | [] => by simp [Sx.jndL]
 | x :: xs => by rw [List.any_cons, jndL_any M S xs]; simp only [Sx.jndL, Bool.not_and]
theorem ixJoined_loop (xs : List Sx) (hl : xs.length ≤ 1048576) (M S : List Int) (p : Sx → Bool) (hp : ∀ x ∈ xs, Fn Tryz.prog 114 [fzX x, .one (.fz (.fp [.sl 1 (ints .i64 M), .sl 1 (ints .i64 S)]))] [] (fzB (p x)) []) :
  ∀ (d j : Nat), j + d = xs.length → (xs.take j).any p = false → ∃ n : Int, (decide (0 ≤ n) = xs.any p) ∧ ∀ R : TV → List Ob → Prop, R (fzI .i64 n) [] → ixJoined_L0 R (Sx.rows xs) (ints .i64 M) (ints .i64 S) j
 | 0, j, hj, h => by
  refine ⟨-1, ?_, fun R hR => ixJoined_l0 ?_⟩
  ·rw [List.take_of_length_le (by omega)] at h
   rw [h]; simp
  ·unfold ixJoined_R0
   rw [srows_len, dec_t, dec_f]
   exact ⟨fun h => by omega, fun _ => hR⟩
 | d + 1, j, hj, h => by
  have hx : xs[j]? = some xs[j] := List.getElem?_eq_getElem (by omega)
  have hF := hp xs[j] (List.getElem_mem _)
  have hr := srow_at hx
  generalize hy : xs[j] = y at hx hF hr
  obtain ⟨k, t, n, l, ys, a, m, u⟩ := y
  unfold fzX at hF
  simp only [Sx.row, List.map_cons, List.map_nil] at hF hr
  by_cases hpx : p (.mk k t n l ys a m u) = true
  ·refine ⟨j, ?_, fun R hR => ixJoined_l0 ?_⟩
   ·have : xs.any p = true := List.any_eq_true.2 ⟨_, List.mem_of_getElem? hx, hpx⟩
    rw [this]; simp
   ·unfold ixJoined_R0
    rw [srows_len, dec_t, dec_f]
    refine ⟨fun _ => ⟨by omega, _, _, _, _, _, _, _, _, hr, _, hF, fun _ => hR, fun h => ?_⟩, fun h => by omega⟩
    rw [hpx] at h; cases h
  ·obtain ⟨q, h1, h2⟩ := ixJoined_loop xs hl M S p hp d (j + 1) (by omega) (by
    rw [List.take_succ_eq_append_getElem (by omega), List.any_append, h, hy]
    simpa using hpx)
   refine ⟨q, h1, fun R hR => ixJoined_l0 ?_⟩
   unfold ixJoined_R0
   have e : IntKind.wrap .i64 ((j : Int) + 1) = ((j + 1 : Nat) : Int) := w64 (by omega) (by omega)
   rw [srows_len, dec_t, dec_f, e]
   refine ⟨fun _ => ⟨by omega, _, _, _, _, _, _, _, _, hr, _, hF, fun h => absurd h hpx, fun _ => h2 R hR⟩, fun h => by omega⟩
theorem anyJoined (xs : List Sx) (hl : xs.length ≤ 1048576) (M S : List Int) (p : Sx → Bool) (hp : ∀ x ∈ xs, Fn Tryz.prog 114 [fzX x, .one (.fz (.fp [.sl 1 (ints .i64 M), .sl 1 (ints .i64 S)]))] [] (fzB (p x)) []) :
  Fn Tryz.prog 112 [.one (.fz (.sl 8 (Sx.rows xs))), .one (.fz (.fn 114 [(false, [.fp [.sl 1 (ints .i64 M), .sl 1 (ints .i64 S)]])]))] [] (fzB (xs.any p)) [] := by
 obtain ⟨n, h1, h2⟩ := ixJoined_loop xs hl M S p hp xs.length 0 (by omega) (by simp)
 refine slices_ContainsFunc_api_Stx_api_Stx_fn _ _ ?_
 unfold slices_ContainsFunc_api_Stx_api_Stx_H
 exact ⟨n, ixJoined_fn _ _ _ (h2 _ ⟨rfl, rfl⟩), by rw [h1], rfl⟩
theorem of_ok' (k : Int) (t : ByteArray) (n : Bool) (l : List Int) (xs : List Sx) (a : Int) (m u : List Int) : Fn Tryz.prog 59 [.agg [.fz (.int .i64 k), .fz (.str t), .fz (.bool n), .fz (.sl 1 (ints .u32 l)), .fz (.sl 8 (Sx.rows xs)), .fz (.int .i64 a), .fz (.sl 1 (ints .i64 m)), .fz (.sl 1 (ints .i64 u))]] [] (fzW m u) [] := by
 refine stx_of_fn _ _ _ _ _ _ _ _ ?_
 unfold stx_of_H
 exact ⟨rfl, rfl⟩
mutual
theorem joined_ok : ∀ (x : Sx) (M S : List Int), x.ok → All64 M → All64 S → Fn Tryz.prog 97 [fzX x, fzW M S] [] (fzB (x.jnd M S)) []
 | .mk k t n l xs a m u, M, S, hok, hM, hS => by
  unfold Sx.ok at hok
  obtain ⟨_, _, _, _, hxl, hxs, _, hm, hu⟩ := hok
  have hj := jo_all hM hS hm hu
  have hall := joined_all xs (joM M S m u) (joS M S m u) hxs hj.1 hj.2
  unfold fzX
  simp only [Sx.row, List.map_cons, List.map_nil]
  refine stx_joined_fn _ _ _ _ _ _ _ _ _ _ ?_
  obtain ⟨R, hR, hRe⟩ := exR (fzB ((Sx.mk k t n l xs a m u).jnd M S))
  rw [hRe]
  clear hRe
  unfold stx_joined_H
  unfold Sx.jnd at hR
  refine ⟨_, _, of_ok' k t n l xs a m u, _, _, _, join_ok M S m u hM hS hm hu, ?_⟩
  rw [beq_t, beq_f]
  refine ⟨fun h => ⟨_, anyJoined xs hxl _ _ (fun x => !x.jnd (joM M S m u) (joS M S m u)) (fun x hx => ?_), ?_⟩, fun h => ?_⟩
  ·obtain ⟨k', t', n', l', ys, a', m', u'⟩ := x
   have hF := hall _ hx
   unfold fzX at hF ⊢
   simp only [Sx.row, List.map_cons, List.map_nil] at hF ⊢
   refine stx_joined_1_fn _ _ _ _ _ _ _ _ _ _ ?_
   unfold stx_joined_1_H
   exact ⟨_, hF, rfl, rfl⟩
  ·rw [jndL_any, Bool.not_not]
   rw [decide_eq_true h, Bool.true_and] at hR; exact hR
  ·rw [decide_eq_false h, Bool.false_and] at hR; exact hR
theorem joined_all : ∀ (xs : List Sx) (M S : List Int), Sx.oks xs → All64 M → All64 S → ∀ x ∈ xs, Fn Tryz.prog 97 [fzX x, fzW M S] [] (fzB (x.jnd M S)) []
 | [], M, S, hok, hM, hS => fun x hx => by cases hx
 | y :: xs, M, S, hok, hM, hS => fun x hx => by
  unfold Sx.oks at hok
  have h1 := joined_ok y M S hok.1 hM hS
  have h2 := joined_all xs M S hok.2 hM hS
  rcases List.mem_cons.1 hx with rfl | hx
  ·exact h1
  ·exact h2 x hx
end
def Sx.snd (x : Sx) : Bool := x.shal 64 && (x.dt.snd && (!x.dt.others && x.jnd [] []))
theorem stxSound_ok (x : Sx) (hx : x.ok) : Fn Tryz.prog 57 [fzX x] [] (fzB x.snd) [] := by
 have h1 := shallow_ok x 64 hx (by omega)
 have h2 := sbare_ok x hx
 have h3 := readSound_ok x.dt (dt_ok x hx)
 have h4 := other_ok x.dt (dt_ok x hx)
 have h5 := joined_ok x [] [] hx all64_nil all64_nil
 obtain ⟨R, hR, hRe⟩ := exR (fzB x.snd)
 unfold Sx.snd at hR hRe ⊢
 generalize x.shal 64 = b1 at *
 generalize x.dt.snd = b2 at *
 generalize x.dt.others = b3 at *
 generalize x.jnd [] [] = b4 at *
 obtain ⟨k, t, n, l, xs, a, m, u⟩ := x
 unfold fzX fzD at *
 simp only [Sx.dt, Sx.row, Dt.row, List.map_cons, List.map_nil] at *
 refine stx_Sound_fn _ _ _ _ _ _ _ _ ?_
 rw [hRe]
 clear hRe
 unfold stx_Sound_H
 refine ⟨_, h1, ?_⟩
 rw [not_t, not_f]
 refine ⟨fun h => ?_, fun h => ⟨_, _, _, _, _, _, h2, _, h3, fun h6 => ⟨_, h4, ?_⟩, fun h6 => ?_⟩⟩
 ·rw [h, Bool.false_and] at hR; exact hR
 ·rw [not_t, not_f]
  refine ⟨fun h7 => ⟨_, h5, ?_⟩, fun h7 => ?_⟩
  ·rw [h, h6, h7] at hR; exact hR
  ·rw [h, h6, h7] at hR; exact hR
 ·rw [h, h6] at hR; exact hR
def Sx.kind : Sx → Int
 | .mk k _ _ _ _ _ _ _ => k
theorem compound_ok (x : Sx) : Fn Tryz.prog 101 [fzX x] [] (fzB (decide (x.kind = 1 ∨ x.kind = 2 ∨ x.kind = 3))) [] := by
 obtain ⟨k, t, n, l, xs, a, m, u⟩ := x
 unfold fzX
 simp only [Sx.kind, Sx.row, List.map_cons, List.map_nil]
 refine stx_Compound_fn _ _ _ _ _ _ _ _ ?_
 unfold stx_Compound_H
 simp only [beq_t, beq_f]
 refine ⟨fun h => ?_, fun h => ⟨fun h2 => ?_, fun h2 => ?_⟩⟩
 ·simp [h]
 ·simp [h2]
 ·simp [h, h2]; rw [Bool.eq_iff_iff]; simp
end
section
mutual
def Sx.bareD : Sx → Int → Dt
 | .mk k t n l xs a m s, room => .mk k t n l (if room = 0 then [] else Sx.bareL xs (room - 1)) a
def Sx.bareL : List Sx → Int → List Dt
 | [], _ => []
 | x :: xs, r => if x.shal r = true then x.bareD r :: Sx.bareL xs r else []
end
mutual
theorem bareD_dt : ∀ (x : Sx) (r : Int), x.shal r = true → x.bareD r = x.dt
 | .mk k t n l xs a m s, r, h => by
  unfold Sx.shal at h
  simp only [Bool.and_eq_true, decide_eq_true_eq] at h
  unfold Sx.bareD Sx.dt
  rw [if_neg (by omega), bareL_dt xs (r - 1) h.2]
theorem bareL_dt : ∀ (xs : List Sx) (r : Int), Sx.shalL xs r = true → Sx.bareL xs r = Sx.dts xs
 | [], r, h => by unfold Sx.bareL Sx.dts; rfl
 | x :: xs, r, h => by
  unfold Sx.shalL at h
  rw [Bool.and_eq_true] at h
  unfold Sx.bareL Sx.dts
  rw [if_pos h.1, bareD_dt x r h.1, bareL_dt xs r h.2]
end
abbrev dbT (d : Dt) (b : Bool) : TV := .tup [(true, d.row.map .fz), (false, [.fz (.bool b)])]
theorem rbare_loop (k : Int) (t : ByteArray) (n : Bool) (l : List Int) (a : Int) (m u : List Int) (xs : List Sx) (hl : xs.length ≤ 1048576) (room : Int) (h0 : 0 < room) (h1 : room ≤ 1000) (hp : ∀ x ∈ xs, Fn Tryz.prog 68 [fzX x, fzI .i64 (room - 1)] [] (dbT (x.bareD (room - 1)) (x.shal (room - 1))) [])
  (R : TV → List Ob → Prop) (hR : R (dbT (.mk k t n l (Sx.bareL xs (room - 1)) a) (Sx.shalL xs (room - 1))) []) : ∀ (d j : Nat) (o : List Dt), j + d = xs.length → o.length ≤ j → Sx.bareL xs (room - 1) = o ++ Sx.bareL (xs.drop j) (room - 1) → Sx.shalL xs (room - 1) = Sx.shalL (xs.drop j) (room - 1) →
   ref09_bare_L0 R k t n (ints .u32 l) (Sx.rows xs) a (ints .i64 m) (ints .i64 u) room j (Dt.rows o)
 | 0, j, o, hj, ho, h2, h3 => by
  refine ref09_bare_l0 ?_
  unfold ref09_bare_R0
  rw [srows_len, dec_t, dec_f]
  refine ⟨fun h => by omega, fun _ => ?_⟩
  rw [h2, h3, List.drop_of_length_le (by omega)] at hR
  simp only [Sx.bareL, Sx.shalL, List.append_nil, Dt.row, List.map_cons, List.map_nil] at hR
  exact hR
 | d + 1, j, o, hj, ho, h2, h3 => by
  have hF := hp xs[j] (List.getElem_mem _)
  have hr := srow_at (List.getElem?_eq_getElem (show j < xs.length by omega))
  have hd : xs.drop j = xs[j] :: xs.drop (j + 1) := List.drop_eq_getElem_cons (by omega)
  rw [hd] at h2 h3
  simp only [Sx.bareL, Sx.shalL] at h2 h3
  generalize xs[j] = y at hF hr h2 h3
  have e : IntKind.wrap .i64 ((j : Int) + 1) = ((j + 1 : Nat) : Int) := w64 (by omega) (by omega)
  have e2 : IntKind.wrap .i64 (room - 1) = room - 1 := w64 (by omega) (by omega)
  by_cases hy : y.shal (room - 1) = true
  ·rw [if_pos hy] at h2
   rw [hy, Bool.true_and] at h3
   rw [hy] at hF
   have ih := rbare_loop k t n l a m u xs hl room h0 h1 hp R hR d (j + 1) (o ++ [y.bareD (room - 1)]) (by omega) (by simp; omega) (by rw [h2]; simp) h3
   rw [rows_app] at ih
   generalize y.bareD (room - 1) = q at hF ih
   obtain ⟨k', t', n', l', ys, a', m', u'⟩ := y
   obtain ⟨k2, t2, n2, l2, ds2, a2⟩ := q
   unfold fzX at hF
   simp only [Dt.row, Sx.row, Dt.rows, List.map_cons, List.map_nil] at hF hr ih
   refine ref09_bare_l0 ?_
   unfold ref09_bare_R0
   rw [srows_len, dec_t, dec_f, e, e2]
   refine ⟨fun _ => ⟨by omega, _, _, _, _, _, _, _, _, hr, _, _, _, _, _, _, _, hF, fun h => (by cases h), fun _ => ⟨?_, ih⟩⟩, fun h => by omega⟩
   rw [rows_len, List.length_singleton]
   omega
  ·have hy' : y.shal (room - 1) = false := by simpa using hy
   rw [if_neg hy, List.append_nil] at h2
   rw [hy', Bool.false_and] at h3
   rw [hy'] at hF
   rw [h2, h3] at hR
   generalize y.bareD (room - 1) = q at hF
   obtain ⟨k', t', n', l', ys, a', m', u'⟩ := y
   obtain ⟨k2, t2, n2, l2, ds2, a2⟩ := q
   unfold fzX at hF
   simp only [Dt.row, Sx.row, Dt.rows, List.map_cons, List.map_nil] at hF hr hR
   refine ref09_bare_l0 ?_
   unfold ref09_bare_R0
   rw [srows_len, dec_t, dec_f, e, e2]
   exact ⟨fun _ => ⟨by omega, _, _, _, _, _, _, _, _, hr, _, _, _, _, _, _, _, hF, fun _ => hR, fun h => (by cases h)⟩, fun h => by omega⟩
mutual
theorem rbare_ok : ∀ (x : Sx) (room : Int), x.ok → 0 ≤ room → room ≤ 1000 → Fn Tryz.prog 68 [fzX x, fzI .i64 room] [] (dbT (x.bareD room) (x.shal room)) []
 | .mk k t n l xs a m u, room, hok, h0, h1 => by
  unfold Sx.ok at hok
  obtain ⟨_, _, _, _, hxl, hxs, _⟩ := hok
  have hall := fun (h : 0 < room) => rbare_all xs (room - 1) hxs (by omega) (by omega)
  obtain ⟨R, hR, hRe⟩ := exR (dbT ((Sx.mk k t n l xs a m u).bareD room) ((Sx.mk k t n l xs a m u).shal room))
  unfold fzX
  simp only [Sx.row, List.map_cons, List.map_nil]
  refine ref09_bare_fn _ _ _ _ _ _ _ _ _ ?_
  rw [hRe]
  clear hRe
  unfold ref09_bare_H
  unfold Sx.bareD Sx.shal at hR
  rw [beq_t, beq_f]
  refine ⟨fun h => ?_, fun h => ?_⟩
  ·rw [if_pos h, decide_eq_false (by omega), Bool.false_and] at hR
   exact hR
  ·rw [if_neg h, decide_eq_true (by omega), Bool.true_and] at hR
   exact rbare_loop k t n l a m u xs hxl room (by omega) h1 (hall (by omega)) R hR xs.length 0 [] (by omega) (by simp) (by simp) rfl
theorem rbare_all : ∀ (xs : List Sx) (room : Int), Sx.oks xs → 0 ≤ room → room ≤ 1000 → ∀ x ∈ xs, Fn Tryz.prog 68 [fzX x, fzI .i64 room] [] (dbT (x.bareD room) (x.shal room)) []
 | [], room, hok, h0, h1 => fun x hx => by cases hx
 | y :: xs, room, hok, h0, h1 => fun x hx => by
  unfold Sx.oks at hok
  have h2 := rbare_ok y room hok.1 h0 h1
  have h3 := rbare_all xs room hok.2 h0 h1
  rcases List.mem_cons.1 hx with rfl | hx
  ·exact h2
  ·exact h3 x hx
end
mutual
def Sx.flatS : Sx → List Int → List Int → Sx
 | .mk k t n l xs a m u, M, S => .mk k t n l (Sx.flatL xs (joM M S m u) (joS M S m u)) a (if k = 4 then joM M S m u else []) (if k = 4 then joS M S m u else [])
def Sx.flatL : List Sx → List Int → List Int → List Sx
 | [], _, _ => []
 | x :: xs, M, S => x.flatS M S :: Sx.flatL xs M S
end
theorem flatL_len : ∀ (xs : List Sx) (M S : List Int), (Sx.flatL xs M S).length = xs.length
 | [], M, S => by simp [Sx.flatL]
 | x :: xs, M, S => by simp [Sx.flatL, flatL_len xs M S]
theorem flatL_app (M S : List Int) : ∀ (a b : List Sx), Sx.flatL (a ++ b) M S = Sx.flatL a M S ++ Sx.flatL b M S
 | [], b => by simp [Sx.flatL]
 | x :: a, b => by simp [Sx.flatL, flatL_app M S a b]
def Sx.zero : Sx := .mk 0 (ByteArray.mk #[]) false [] [] 0 [] []
def Sx.flatR (x : Sx) (M S : List Int) : Sx := if x.jnd M S = true then x.flatS M S else Sx.zero
abbrev sbT (x : Sx) (b : Bool) : TV := .tup [(true, x.row.map .fz), (false, [.fz (.bool b)])]
theorem rflat_loop (k : Int) (t : ByteArray) (n : Bool) (l : List Int) (a : Int) (m u : List Int) (xs : List Sx) (hl : xs.length ≤ 1048576) (M S : List Int) (hp : ∀ x ∈ xs, Fn Tryz.prog 71 [fzX x, fzS .i64 M, fzS .i64 S] [] (sbT (x.flatR M S) (x.jnd M S)) [])
  (R : TV → List Ob → Prop) (hok : Sx.jndL xs M S = true → R (sbT (.mk k t n l (Sx.flatL xs M S) a (if k = 4 then M else []) (if k = 4 then S else [])) true) []) (hbad : Sx.jndL xs M S = false → R (sbT Sx.zero false) []) : ∀ (d j : Nat), j + d = xs.length → Sx.jndL xs M S = Sx.jndL (xs.drop j) M S →
   ref09_flat_L0 R k t n (ints .u32 l) (Sx.rows xs) a (ints .i64 m) (ints .i64 u) (ints .i64 M) (ints .i64 S) j (Sx.rows (Sx.flatL (xs.take j) M S))
 | 0, j, hj, h => by
  refine ref09_flat_l0 ?_
  unfold ref09_flat_R0
  rw [srows_len, dec_t, dec_f]
  refine ⟨fun h => by omega, fun _ => ?_⟩
  rw [List.drop_of_length_le (by omega)] at h
  simp only [Sx.jndL] at h
  have hR := hok h
  rw [List.take_of_length_le (by omega), beq_t, beq_f]
  refine ⟨fun h4 => ?_, fun h4 => ?_⟩
  ·rw [if_pos h4, if_pos h4] at hR
   exact hR
  ·rw [if_neg h4, if_neg h4] at hR
   exact hR
 | d + 1, j, hj, h => by
  have hF := hp xs[j] (List.getElem_mem _)
  have hr := srow_at (List.getElem?_eq_getElem (show j < xs.length by omega))
  have hd : xs.drop j = xs[j] :: xs.drop (j + 1) := List.drop_eq_getElem_cons (by omega)
  have ht : xs.take (j + 1) = xs.take j ++ [xs[j]] := List.take_succ_eq_append_getElem (by omega)
  rw [hd] at h
  simp only [Sx.jndL] at h
  have e : IntKind.wrap .i64 ((j : Int) + 1) = ((j + 1 : Nat) : Int) := w64 (by omega) (by omega)
  refine ref09_flat_l0 ?_
  unfold ref09_flat_R0
  rw [srows_len, dec_t, dec_f, e]
  by_cases hy : xs[j].jnd M S = true
  ·have ih := rflat_loop k t n l a m u xs hl M S hp R hok hbad d (j + 1) (by omega) (by rw [h, hy, Bool.true_and])
   rw [ht, flatL_app, srows_app] at ih
   unfold Sx.flatR at hF
   rw [if_pos hy, hy] at hF
   have hlen : (Sx.rows (Sx.flatL (xs.take j) M S)).length = j := by rw [srows_len, flatL_len, List.length_take]; omega
   generalize xs[j] = y at hF hr ih
   simp only [Sx.flatL] at ih
   generalize y.flatS M S = q at hF ih
   obtain ⟨k', t', n', l', ys, a', m', u'⟩ := y
   obtain ⟨k2, t2, n2, l2, ds2, a2, m2, u2⟩ := q
   unfold fzX at hF
   simp only [Sx.row, Sx.rows, List.map_cons, List.map_nil] at hF hr ih
   refine ⟨fun _ => ⟨by omega, _, _, _, _, _, _, _, _, hr, _, _, _, _, _, _, _, _, _, hF, fun h => (by cases h), fun _ => ⟨?_, ih⟩⟩, fun h => by omega⟩
   rw [hlen, List.length_singleton]
   omega
  ·have hy' : xs[j].jnd M S = false := by simpa using hy
   have hR := hbad (by rw [h, hy', Bool.false_and])
   unfold Sx.flatR at hF
   rw [if_neg hy, hy'] at hF
   generalize xs[j] = y at hF hr
   obtain ⟨k', t', n', l', ys, a', m', u'⟩ := y
   unfold fzX at hF
   unfold Sx.zero at hF hR
   simp only [Sx.row, Sx.rows, List.map_cons, List.map_nil] at hF hr hR
   exact ⟨fun _ => ⟨by omega, _, _, _, _, _, _, _, _, hr, _, _, _, _, _, _, _, _, _, hF, fun _ => hR, fun h => (by cases h)⟩, fun h => by omega⟩
mutual
theorem rflat_ok : ∀ (x : Sx) (M S : List Int), x.ok → All64 M → All64 S → Fn Tryz.prog 71 [fzX x, fzS .i64 M, fzS .i64 S] [] (sbT (x.flatR M S) (x.jnd M S)) []
 | .mk k t n l xs a m u, M, S, hok, hM, hS => by
  unfold Sx.ok at hok
  obtain ⟨_, _, _, _, hxl, hxs, _, hm, hu⟩ := hok
  have hj := jo_all hM hS hm hu
  have hall := rflat_all xs (joM M S m u) (joS M S m u) hxs hj.1 hj.2
  obtain ⟨R, hR, hRe⟩ := exR (sbT ((Sx.mk k t n l xs a m u).flatR M S) ((Sx.mk k t n l xs a m u).jnd M S))
  unfold fzX
  simp only [Sx.row, List.map_cons, List.map_nil]
  refine ref09_flat_fn _ _ _ _ _ _ _ _ _ _ ?_
  rw [hRe]
  clear hRe
  unfold ref09_flat_H
  unfold Sx.flatR at hR
  have good : (Sx.mk k t n l xs a m u).jnd M S = true → R (sbT ((Sx.mk k t n l xs a m u).flatS M S) true) [] := fun h => by rw [if_pos h, h] at hR; exact hR
  have bad : (Sx.mk k t n l xs a m u).jnd M S = false → R (sbT Sx.zero false) [] := fun h => by rw [if_neg (by rw [h]; simp), h] at hR; exact hR
  unfold Sx.jnd at good bad
  unfold Sx.flatS at good
  refine ⟨_, _, _, rJoin_ok M S m u hM hS hm hu, ?_⟩
  rw [bne_t, bne_f]
  refine ⟨fun h => bad (by rw [decide_eq_false h, Bool.false_and]), fun h => ?_⟩
  rw [decide_eq_true h, Bool.true_and] at good bad
  exact rflat_loop k t n l a m u xs hxl _ _ hall R good bad xs.length 0 (by omega) rfl
theorem rflat_all : ∀ (xs : List Sx) (M S : List Int), Sx.oks xs → All64 M → All64 S → ∀ x ∈ xs, Fn Tryz.prog 71 [fzX x, fzS .i64 M, fzS .i64 S] [] (sbT (x.flatR M S) (x.jnd M S)) []
 | [], M, S, hok, hM, hS => fun x hx => by cases hx
 | y :: xs, M, S, hok, hM, hS => fun x hx => by
  unfold Sx.oks at hok
  have h1 := rflat_ok y M S hok.1 hM hS
  have h2 := rflat_all xs M S hok.2 hM hS
  rcases List.mem_cons.1 hx with rfl | hx
  ·exact h1
  ·exact h2 x hx
end
theorem rSound9_ok (x : Sx) (hx : x.ok) : Fn Tryz.prog 23 [fzX x] [] (fzB x.snd) [] := by
 have h1 := rbare_ok x 64 hx (by omega) (by omega)
 have h3 := rSound_ok x.dt (dt_ok x hx)
 have h4 := others_ok x.dt (dt_ok x hx)
 have h5 := rflat_ok x [] [] hx all64_nil all64_nil
 obtain ⟨R, hR, hRe⟩ := exR (fzB x.snd)
 have hsh := bareD_dt x 64
 unfold Sx.snd at hR hRe ⊢
 generalize x.shal 64 = b1 at *
 generalize x.dt.snd = b2 at *
 generalize x.dt.others = b3 at *
 generalize x.jnd [] [] = b4 at *
 generalize x.dt = d at *
 generalize x.bareD 64 = d' at *
 generalize x.flatR [] [] = y at *
 obtain ⟨k, t, n, l, xs, a, m, u⟩ := x
 obtain ⟨k1, t1, n1, l1, xs1, a1⟩ := d
 obtain ⟨k2, t2, n2, l2, xs2, a2⟩ := d'
 obtain ⟨k3, t3, n3, l3, xs3, a3, m3, u3⟩ := y
 unfold fzX fzD at *
 simp only [Sx.row, Dt.row, List.map_cons, List.map_nil] at h1 h3 h4 h5 ⊢
 refine ref09_Sound_fn _ _ _ _ _ _ _ _ ?_
 rw [hRe]
 clear hRe
 unfold ref09_Sound_H
 refine ⟨_, _, _, _, _, _, _, h1, ?_⟩
 rw [not_t, not_f]
 refine ⟨fun h => ?_, fun h => ?_⟩
 ·rw [h, Bool.false_and] at hR; exact hR
 ·obtain ⟨⟩ := hsh h
  refine ⟨_, h3, ?_⟩
  rw [not_t, not_f]
  refine ⟨fun h6 => ?_, fun h6 => ⟨_, h4, fun h7 => ?_, fun h7 => ⟨_, _, _, _, _, _, _, _, _, h5, ?_⟩⟩⟩
  ·rw [h, h6] at hR; exact hR
  ·rw [h, h6, h7] at hR; exact hR
  ·rw [h, h6, h7] at hR; exact hR
end
section
theorem str_eq (a b : ByteArray) : (ByteArray.toList a == ByteArray.toList b) = decide (a = b) := by
 have := eq_bytes (bs_bytes a) (bs_bytes b)
 rw [of_bs, of_bs] at this
 rw [this, decide_eq_decide]
 exact ⟨fun h => bs_inj h, fun h => by rw [h]⟩
theorem len_bne (n m : Nat) : (((n : Nat) : Int) != ((m : Nat) : Int)) = !decide (n = m) := by
 rw [Bool.eq_iff_iff]; simp [bne]; omega
end
section
mutual
def Sx.exact : Sx → Sx → Bool
 | .mk k t n l xs _ m u, .mk k' t' n' l' ys _ m' u' => decide (k = k') && (decide (t = t') && (decide (n = n' ∧ l = l') && (decide (m = m') && (decide (u = u') && (decide (xs.length = ys.length) && Sx.exactL xs ys)))))
def Sx.exactL : List Sx → List Sx → Bool
 | [], _ => true
 | x :: xs, ys => match ys with
  | [] => true
  | y :: ys => x.exact y && Sx.exactL xs ys
end
theorem exactL_cons (x y : Sx) (xs ys : List Sx) : Sx.exactL (x :: xs) (y :: ys) = (x.exact y && Sx.exactL xs ys) := by simp only [Sx.exactL]
theorem rExact_loop (k : Int) (t : ByteArray) (n : Bool) (l : List Int) (a : Int) (m u : List Int) (k' : Int) (t' : ByteArray) (n' : Bool) (l' : List Int) (a' : Int) (m' u' : List Int) (xs ys : List Sx) (hl : xs.length ≤ 1048576) (hxy : xs.length = ys.length)
  (hp : ∀ x ∈ xs, ∀ y, Fn Tryz.prog 20 [fzX x, fzX y] [] (fzB (x.exact y)) [])
  (R : TV → List Ob → Prop) (hR : R (fzB (Sx.exactL xs ys)) []) : ∀ (d j : Nat), j + d = xs.length → Sx.exactL xs ys = Sx.exactL (xs.drop j) (ys.drop j) →
   ref09_Exact_L0 R k t n (ints .u32 l) (Sx.rows xs) a (ints .i64 m) (ints .i64 u) k' t' n' (ints .u32 l') (Sx.rows ys) a' (ints .i64 m') (ints .i64 u') j
 | 0, j, hj, h => by
  refine ref09_Exact_l0 ?_
  unfold ref09_Exact_R0
  rw [srows_len, dec_t, dec_f]
  refine ⟨fun h => by omega, fun _ => ?_⟩
  rw [h, List.drop_of_length_le (by omega)] at hR
  simpa only [Sx.exactL] using hR
 | d + 1, j, hj, h => by
  have hF := hp xs[j] (List.getElem_mem _) (ys[j]'(by omega))
  have hr := srow_at (List.getElem?_eq_getElem (show j < xs.length by omega))
  have hr2 := srow_at (List.getElem?_eq_getElem (show j < ys.length by omega))
  have hd : xs.drop j = xs[j] :: xs.drop (j + 1) := List.drop_eq_getElem_cons (by omega)
  have hd2 : ys.drop j = ys[j]'(by omega) :: ys.drop (j + 1) := List.drop_eq_getElem_cons (by omega)
  rw [hd, hd2, exactL_cons] at h
  generalize xs[j] = y at hF hr h
  generalize ys[j]'(by omega) = z at hF hr2 h
  obtain ⟨k1, t1, n1, l1, ys1, a1, m1, u1⟩ := y
  obtain ⟨k2, t2, n2, l2, ys2, a2, m2, u2⟩ := z
  unfold fzX at hF
  simp only [Sx.row, List.map_cons, List.map_nil] at hF hr hr2
  refine ref09_Exact_l0 ?_
  unfold ref09_Exact_R0
  have e : IntKind.wrap .i64 ((j : Int) + 1) = ((j + 1 : Nat) : Int) := w64 (by omega) (by omega)
  rw [srows_len, dec_t, dec_f, e]
  refine ⟨fun _ => ⟨by omega, _, _, _, _, _, _, _, _, hr, by omega, _, _, _, _, _, _, _, _, hr2, _, hF, ?_⟩, fun h => by omega⟩
  rw [not_t, not_f]
  refine ⟨fun h1 => ?_, fun h1 => ?_⟩
  ·rw [h, h1, Bool.false_and] at hR; exact hR
  ·exact rExact_loop k t n l a m u k' t' n' l' a' m' u' xs ys hl hxy hp R hR d (j + 1) (by omega) (by rw [h, h1, Bool.true_and])
mutual
theorem rExact_ok : ∀ (x y : Sx), x.ok → Fn Tryz.prog 20 [fzX x, fzX y] [] (fzB (x.exact y)) []
 | .mk k t n l xs a m u, .mk k' t' n' l' ys a' m' u', hok => by
  unfold Sx.ok at hok
  obtain ⟨_, _, _, hl4, hxl, hxs, _, hm, hu⟩ := hok
  have hall := rExact_all xs hxs
  obtain ⟨R, hR, hRe⟩ := exR (fzB ((Sx.mk k t n l xs a m u).exact (.mk k' t' n' l' ys a' m' u')))
  unfold fzX
  simp only [Sx.row, List.map_cons, List.map_nil]
  refine ref09_Exact_fn _ _ _ _ _ _ _ _ _ _ _ _ _ _ _ _ ?_
  rw [hRe]
  clear hRe
  unfold ref09_Exact_H
  unfold Sx.exact at hR
  rw [str_eq, srows_len, srows_len, len_bne, bne_t, bne_f, not_t, not_f, dec_t, not_t, not_f]
  refine ⟨fun h => ?_, fun h => ⟨fun h2 => ?_, fun h2 => ⟨_, same_ok n n' l l' (by omega), ?_⟩⟩⟩
  ·rw [decide_eq_false h, Bool.false_and] at hR; exact hR
  ·rw [decide_eq_true h, h2] at hR; exact hR
  ·rw [not_t, not_f]
   refine ⟨fun h3 => ?_, fun h3 => ⟨_, sameInts_ok m m' hm.2, ?_⟩⟩
   ·rw [decide_eq_true h, decide_eq_true h2, h3] at hR; exact hR
   rw [not_t, not_f]
   refine ⟨fun h4 => ?_, fun h4 => ⟨_, sameInts_ok u u' hu.2, ?_⟩⟩
   ·rw [decide_eq_true h, decide_eq_true h2, h3, h4] at hR; exact hR
   rw [not_t, not_f]
   refine ⟨fun h5 => ?_, fun h5 => ⟨fun h6 => ?_, fun h6 => ?_⟩⟩
   ·rw [decide_eq_true h, decide_eq_true h2, h3, h4, h5] at hR; exact hR
   ·rw [decide_eq_true h, decide_eq_true h2, h3, h4, h5, h6] at hR; exact hR
   ·rw [decide_eq_true h, decide_eq_true h2, h3, h4, h5, h6] at hR
    exact rExact_loop k t n l a m u k' t' n' l' a' m' u' xs ys hxl (of_decide_eq_true h6) hall R hR xs.length 0 (by omega) rfl
theorem rExact_all : ∀ (xs : List Sx), Sx.oks xs → ∀ x ∈ xs, ∀ y, Fn Tryz.prog 20 [fzX x, fzX y] [] (fzB (x.exact y)) []
 | [], hok => fun x hx => by cases hx
 | z :: xs, hok => fun x hx y => by
  unfold Sx.oks at hok
  have h1 := rExact_ok z y hok.1
  have h2 := rExact_all xs hok.2
  rcases List.mem_cons.1 hx with rfl | hx
  ·exact h1
  ·exact h2 x hx y
end
theorem rOwn_loop (k : Int) (t : ByteArray) (n : Bool) (l : List Int) (a : Int) (m u : List Int) (xs : List Sx) (hl : xs.length ≤ 1048576) (hp : ∀ x ∈ xs, Fn Tryz.prog 18 [fzX x] [] (fzX x) [])
  (R : TV → List Ob → Prop) (hR : R (fzX (.mk k t n l xs a m u)) []) : ∀ (d j : Nat), j + d = xs.length → ref09_Own_L0 R k t n (ints .u32 l) (Sx.rows xs) a (ints .i64 m) (ints .i64 u) j (Sx.rows (xs.take j))
 | 0, j, hj => by
  refine ref09_Own_l0 ?_
  unfold ref09_Own_R0
  rw [srows_len, dec_t, dec_f, List.nil_append, List.nil_append, List.nil_append]
  refine ⟨fun h => by omega, fun _ => ?_⟩
  rw [List.take_of_length_le (by omega)]
  unfold fzX at hR
  simp only [Sx.row, List.map_cons, List.map_nil] at hR
  exact hR
 | d + 1, j, hj => by
  have hF := hp xs[j] (List.getElem_mem _)
  have hr := srow_at (List.getElem?_eq_getElem (show j < xs.length by omega))
  have ht : xs.take (j + 1) = xs.take j ++ [xs[j]] := List.take_succ_eq_append_getElem (by omega)
  have ih := rOwn_loop k t n l a m u xs hl hp R hR d (j + 1) (by omega)
  rw [ht, srows_app] at ih
  generalize xs[j] = y at hF hr ih
  obtain ⟨k', t', n', l', ys, a', m', u'⟩ := y
  unfold fzX at hF
  simp only [Sx.row, Sx.rows, List.map_cons, List.map_nil] at hF hr ih
  refine ref09_Own_l0 ?_
  unfold ref09_Own_R0
  have e : IntKind.wrap .i64 ((j : Int) + 1) = ((j + 1 : Nat) : Int) := w64 (by omega) (by omega)
  rw [srows_len, dec_t, dec_f, e]
  refine ⟨fun _ => ⟨by omega, _, _, _, _, _, _, _, _, hr, _, _, _, _, _, _, _, _, hF, ?_, ih⟩, fun h => by omega⟩
  rw [srows_len, List.length_take, List.length_singleton]
  omega
mutual
theorem rOwn_ok : ∀ (x : Sx), x.ok → Fn Tryz.prog 18 [fzX x] [] (fzX x) []
 | .mk k t n l xs a m u, hok => by
  unfold Sx.ok at hok
  obtain ⟨_, _, _, hl4, hxl, hxs, _, hm, hu⟩ := hok
  have hall := rOwn_all xs hxs
  obtain ⟨R, hR, hRe⟩ := exR (fzX (.mk k t n l xs a m u))
  have hR' := hR
  unfold fzX at hRe ⊢
  simp only [Sx.row, List.map_cons, List.map_nil] at hRe ⊢
  refine ref09_Own_fn _ _ _ _ _ _ _ _ ?_
  rw [hRe]
  clear hRe
  unfold ref09_Own_H
  rw [List.length_nil, ints_len, ints_len, ints_len]
  have h1 := hm.2
  have h2 := hu.2
  exact ⟨by omega, by omega, by omega, by simpa [Sx.rows] using rOwn_loop k t n l a m u xs hxl hall R hR' xs.length 0 (by omega)⟩
theorem rOwn_all : ∀ (xs : List Sx), Sx.oks xs → ∀ x ∈ xs, Fn Tryz.prog 18 [fzX x] [] (fzX x) []
 | [], hok => fun x hx => by cases hx
 | y :: xs, hok => fun x hx => by
  unfold Sx.oks at hok
  have h1 := rOwn_ok y hok.1
  have h2 := rOwn_all xs hok.2
  rcases List.mem_cons.1 hx with rfl | hx
  ·exact h1
  ·exact h2 x hx
end
end
section
theorem clone64_ok (l : List Int) (hl : l.length * 8 ≤ 140737488355328) : Fn Tryz.prog 79 [fzS .i64 l] [] (fzS .i64 l) [] := by
 refine slices_Clone_int_int_fn _ ?_
 unfold slices_Clone_int_int_H
 simp only [ints_len, ints_app, ints_snoc, ints_take, ints_drop, ints_set, ints_rep, ints_one, ex_rd, dec_t, dec_f, beq_t, beq_f, bne_t, bne_f, not_t, not_f, List.length_set, List.length_append, List.length_cons, List.length_nil, List.length_take, List.length_drop, List.length_replicate, Int.toNat_natCast, List.nil_append, Bool.not_true, Bool.not_false, Wk_nil, Wk_cons, wk1_same, wk1_f, and_true, true_and, Bool.false_eq_true, Bool.true_eq_false, false_implies, forall_const, ints_eq_nil]
 repeat' (first | (with_reducible refine And.intro ?_ ?_) | (with_reducible intro _)); all_goals (try rfl)
 all_goals first | (subst_vars; rfl) | omega
theorem mark_ok (n : Int) (h : 0 < n) : Fn Tryz.prog 30 [fzI .i64 n] [] (fzW [n] [0]) [] := by
 refine wrap_Mark_fn _ ?_
 unfold wrap_Mark_H
 rw [beq_t, beq_f, dec_t, dec_f]
 exact ⟨fun h => by omega, fun _ => ⟨fun h => by omega, fun _ => ⟨rfl, rfl⟩⟩⟩
end
section
def cloneX_lv : List Nat → Keep := lvOf []
def cloneX_H (R : TV → List Ob → Prop) (s : List (List FV)) : Prop :=
 (((s = ([] : LL)) → ((R (TV.one (AV.ofl 8 0)) [(Ob.f 0 8 ([] : LL))]) ∧ (((((List.length ([] : LL)) + (List.length s)) * 136) ≤ 220000000000000) ∧ (R (TV.one (AV.ofl 8 0)) [(Ob.f 28 8 (([] : LL) ++ s))])))) ∧ ((¬ (s = ([] : LL))) → (((false = true) → (R (TV.one (AV.ofl 8 0)) [(Ob.f 0 8 ([] : LL))])) ∧ ((false = false) → (((((List.length ([] : LL)) + (List.length s)) * 136) ≤ 220000000000000) ∧ (R (TV.one (AV.ofl 8 0)) [(Ob.f 28 8 (([] : LL) ++ s))]))))))
theorem cloneX_fn (s : LL) {r : TV} {h : List Ob} (H : cloneX_H (fun r' h' => r' = r ∧ Wk h' h) s) : Fn Tryz.prog 99 [(TV.one (AV.fz (FV.sl 8 s)))] [] r h :=
 Fn.by_trW (M := (modeOf [] [])) (lv := cloneX_lv) (own := (some 0)) (F := Tryz.f99) (by kernel_rfl) (by kernel_rfl) (by first | decide | simp) (fun _ _ h => h) (by kernel_rfl) H
def stx_ownO_lv : List Nat → Keep := lvOf [([0, 1, 0, 1, 1, 1], ⟨50331654, 0, [], false, false⟩)]
def stx_ownO_S0 (x0 : Int) (x1 : ByteArray) (x2 : Bool) (x5 : Int) (es3 : LL) (es : LL) (es1 : LL) (es2 : LL) : St := (St.mk [TV.und, (TV.one (AV.ptr 0 0 0 0)), (TV.one (AV.ptr 1 0 0 0)), TV.und, TV.und, TV.und, TV.und, TV.und, TV.und, TV.und, TV.und, TV.und, TV.und, TV.und, TV.und, TV.und, TV.und, TV.und, TV.und, TV.und, TV.und, TV.und, TV.und, TV.und, (TV.one (AV.fz (FV.int .i64 (((List.length es3) : Nat) : Int)))), (TV.one (AV.fz (FV.int .i64 0))), TV.und, TV.und, TV.und, TV.und, TV.und, TV.und, TV.und, TV.und, TV.und, TV.und, TV.und, TV.und, TV.und, TV.und] [(Ob.g 28 [(AV.fz (FV.int .i64 x0)), (AV.fz (FV.str x1)), (AV.fz (FV.bool x2)), (AV.fz (FV.sl 1 es)), (AV.ofl 8 2), (AV.fz (FV.int .i64 x5)), (AV.fz (FV.sl 1 es1)), (AV.fz (FV.sl 1 es2))]), (Ob.g 28 [(AV.fz (FV.int .i64 0)), (AV.fz (FV.str (ByteArray.mk #[]))), (AV.fz (FV.bool false)), (AV.ofl 1 3), (AV.ofl 8 4), (AV.fz (FV.int .i64 0)), (AV.ofl 1 5), (AV.ofl 1 6)]), (Ob.f 0 8 es3), (Ob.f 0 1 ([] : LL)), (Ob.f 0 8 ([] : LL)), (Ob.f 0 1 ([] : LL)), (Ob.f 0 1 ([] : LL))])
def stx_ownO_L0 (R : TV → List Ob → Prop) (x0 : Int) (x1 : ByteArray) (x2 : Bool) (x5 : Int) (es3 : LL) (es : LL) (es1 : LL) (es2 : LL) : Prop := LoopAt Tryz.prog (modeOf [99] [(61, [(Sig.mk 0 [(true, [(AT.k (CK.int .i64)), (AT.k CK.str), (AT.k CK.bool), (AT.k (CK.sl 1)), (AT.a (AV.ofl 8 0)), (AT.k (CK.int .i64)), (AT.k (CK.sl 1)), (AT.k (CK.sl 1))])] [(OT.r 1 8)] 0)])]) stx_ownO_lv Tryz.f61 (some 0) R [1, 1, 1, 0, 1, 0] (stx_ownO_S0 x0 x1 x2 x5 es3 es es1 es2)
def stx_ownO_S1 (x0 : Int) (x1 : ByteArray) (x2 : Bool) (x5 : Int) (i : Int) (i1 : Int) (es : LL) (es1 : LL) (es2 : LL) (o : LL) (o1 : Nat) : St := (St.mk [TV.und, (TV.one (AV.ptr 0 0 0 0)), (TV.one (AV.ptr 1 0 0 0)), TV.und, TV.und, TV.und, TV.und, TV.und, TV.und, TV.und, TV.und, TV.und, TV.und, TV.und, TV.und, TV.und, TV.und, TV.und, TV.und, TV.und, TV.und, TV.und, TV.und, TV.und, (TV.one (AV.fz (FV.int .i64 i))), (TV.one (AV.fz (FV.int .i64 i1))), TV.und, TV.und, TV.und, TV.und, TV.und, TV.und, TV.und, TV.und, TV.und, TV.und, TV.und, TV.und, TV.und, TV.und] [(Ob.g 28 [(AV.fz (FV.int .i64 x0)), (AV.fz (FV.str x1)), (AV.fz (FV.bool x2)), (AV.fz (FV.sl 1 es)), (AV.ofl 8 2), (AV.fz (FV.int .i64 x5)), (AV.fz (FV.sl 1 es1)), (AV.fz (FV.sl 1 es2))]), (Ob.g 28 [(AV.fz (FV.int .i64 0)), (AV.fz (FV.str (ByteArray.mk #[]))), (AV.fz (FV.bool false)), (AV.ofl 1 3), (AV.ofl 8 4), (AV.fz (FV.int .i64 0)), (AV.ofl 1 5), (AV.ofl 1 6)]), (Ob.r 1 0 8 o (some o1) none), (Ob.f 0 1 ([] : LL)), (Ob.f 0 8 ([] : LL)), (Ob.f 0 1 ([] : LL)), (Ob.f 0 1 ([] : LL))])
def stx_ownO_L1 (R : TV → List Ob → Prop) (x0 : Int) (x1 : ByteArray) (x2 : Bool) (x5 : Int) (i : Int) (i1 : Int) (es : LL) (es1 : LL) (es2 : LL) (o : LL) (o1 : Nat) : Prop := LoopAt Tryz.prog (modeOf [99] [(61, [(Sig.mk 0 [(true, [(AT.k (CK.int .i64)), (AT.k CK.str), (AT.k CK.bool), (AT.k (CK.sl 1)), (AT.a (AV.ofl 8 0)), (AT.k (CK.int .i64)), (AT.k (CK.sl 1)), (AT.k (CK.sl 1))])] [(OT.r 1 8)] 0)])]) stx_ownO_lv Tryz.f61 (some 0) R [1, 1, 1, 0, 1, 0] (stx_ownO_S1 x0 x1 x2 x5 i i1 es es1 es2 o o1)
def stx_ownO_R0 (R : TV → List Ob → Prop) (x0 : Int) (x1 : ByteArray) (x2 : Bool) (x5 : Int) (es3 : LL) (es : LL) (es1 : LL) (es2 : LL) : Prop :=
 ((((decide ((0 : Int) < (((List.length es3) : Nat) : Int))) = true) → ((((0 : Int) ≤ 0) ∧ ((0 : Int) < (((List.length es3) : Nat) : Int))) ∧ (∃ n42 : Int, (∃ s21 : ByteArray, (∃ b21 : Bool, (∃ es88 : LL, (∃ es89 : LL, (∃ n43 : Int, (∃ es90 : LL, (∃ es91 : LL, (((es3)[(Int.toNat 0)]? = (some [(FV.int .i64 n42), (FV.str s21), (FV.bool b21), (FV.sl 1 es88), (FV.sl 8 es89), (FV.int .i64 n43), (FV.sl 1 es90), (FV.sl 1 es91)])) ∧ (∃ es92 : LL, (∃ n44 : Int, (∃ s22 : ByteArray, (∃ b22 : Bool, (∃ es93 : LL, (∃ n45 : Int, (∃ es94 : LL, (∃ es95 : LL, ((Fn Tryz.prog 61 [(TV.agg [(AV.fz (FV.int .i64 n42)), (AV.fz (FV.str s21)), (AV.fz (FV.bool b21)), (AV.fz (FV.sl 1 es88)), (AV.fz (FV.sl 8 es89)), (AV.fz (FV.int .i64 n43)), (AV.fz (FV.sl 1 es90)), (AV.fz (FV.sl 1 es91))])] [] (TV.agg [(AV.fz (FV.int .i64 n44)), (AV.fz (FV.str s22)), (AV.fz (FV.bool b22)), (AV.fz (FV.sl 1 es93)), (AV.ofl 8 0), (AV.fz (FV.int .i64 n45)), (AV.fz (FV.sl 1 es94)), (AV.fz (FV.sl 1 es95))]) [(Ob.r 1 0 8 es92 none none)]) ∧ ((((0 : Int) ≤ 0) ∧ ((0 : Int) < (((List.length es3) : Nat) : Int))) ∧ (∃ n46 : Int, (∃ s23 : ByteArray, (∃ b23 : Bool, (∃ es96 : LL, (∃ es97 : LL, (∃ n47 : Int, (∃ es98 : LL, (∃ es99 : LL, (((es3)[(Int.toNat 0)]? = (some [(FV.int .i64 n46), (FV.str s23), (FV.bool b23), (FV.sl 1 es96), (FV.sl 8 es97), (FV.int .i64 n47), (FV.sl 1 es98), (FV.sl 1 es99)])) ∧ ((((Int.toNat 0) < 0) ∧ (stx_ownO_L1 R x0 x1 x2 x5 (((List.length es3) : Nat) : Int) (IntKind.wrap .i64 (0 + 1)) es es1 es2 (setC (List.set es3 (Int.toNat 0) [(FV.int .i64 n44), (FV.str s22), (FV.bool b22), (FV.sl 1 es93), (FV.sl 8 ([] : LL)), (FV.int .i64 n45), (FV.sl 1 es94), (FV.sl 1 es95)]) (Int.toNat 0) 4 (FV.sl 8 es92)) 0)) ∨ (((Int.toNat 0) = 0) ∧ (stx_ownO_L1 R x0 x1 x2 x5 (((List.length es3) : Nat) : Int) (IntKind.wrap .i64 (0 + 1)) es es1 es2 (setC (List.set es3 (Int.toNat 0) [(FV.int .i64 n44), (FV.str s22), (FV.bool b22), (FV.sl 1 es93), (FV.sl 8 ([] : LL)), (FV.int .i64 n45), (FV.sl 1 es94), (FV.sl 1 es95)]) (Int.toNat 0) 4 (FV.sl 8 es92)) 1))))))))))))))))))))))))))))))))) ∧ (((decide ((0 : Int) < (((List.length es3) : Nat) : Int))) = false) → (R (TV.agg [(AV.fz (FV.int .i64 x0)), (AV.fz (FV.str x1)), (AV.fz (FV.bool x2)), (AV.fz (FV.sl 1 es)), (AV.ofl 8 0), (AV.fz (FV.int .i64 x5)), (AV.fz (FV.sl 1 es1)), (AV.fz (FV.sl 1 es2))]) [(Ob.f 0 8 es3)])))
theorem stx_ownO_l0 {R : TV → List Ob → Prop} {x0 : Int} {x1 : ByteArray} {x2 : Bool} {x5 : Int} {es3 : LL} {es : LL} {es1 : LL} {es2 : LL} (h : stx_ownO_R0 R x0 x1 x2 x5 es3 es es1 es2) : stx_ownO_L0 R x0 x1 x2 x5 es3 es es1 es2 :=
 LoopAt.by_tr (by kernel_rfl) (by kernel_rfl) h
def stx_ownO_R1 (R : TV → List Ob → Prop) (x0 : Int) (x1 : ByteArray) (x2 : Bool) (x5 : Int) (i : Int) (i1 : Int) (es : LL) (es1 : LL) (es2 : LL) (o : LL) (o1 : Nat) : Prop :=
 ((((decide (i1 < i)) = true) → ((((0 : Int) ≤ i1) ∧ (i1 < (((List.length o) : Nat) : Int))) ∧ ((((Int.toNat i1) < o1) ∧ (∃ n42 : Int, (∃ s21 : ByteArray, (∃ b21 : Bool, (∃ es88 : LL, (∃ es89 : LL, (∃ n43 : Int, (∃ es90 : LL, (∃ es91 : LL, (((o)[(Int.toNat i1)]? = (some [(FV.int .i64 n42), (FV.str s21), (FV.bool b21), (FV.sl 1 es88), (FV.sl 8 es89), (FV.int .i64 n43), (FV.sl 1 es90), (FV.sl 1 es91)])) ∧ (∃ es92 : LL, (∃ n44 : Int, (∃ s22 : ByteArray, (∃ b22 : Bool, (∃ es93 : LL, (∃ n45 : Int, (∃ es94 : LL, (∃ es95 : LL, ((Fn Tryz.prog 61 [(TV.agg [(AV.fz (FV.int .i64 n42)), (AV.fz (FV.str s21)), (AV.fz (FV.bool b21)), (AV.fz (FV.sl 1 es88)), (AV.fz (FV.sl 8 es89)), (AV.fz (FV.int .i64 n43)), (AV.fz (FV.sl 1 es90)), (AV.fz (FV.sl 1 es91))])] [] (TV.agg [(AV.fz (FV.int .i64 n44)), (AV.fz (FV.str s22)), (AV.fz (FV.bool b22)), (AV.fz (FV.sl 1 es93)), (AV.ofl 8 0), (AV.fz (FV.int .i64 n45)), (AV.fz (FV.sl 1 es94)), (AV.fz (FV.sl 1 es95))]) [(Ob.r 1 0 8 es92 none none)]) ∧ ((((0 : Int) ≤ i1) ∧ (i1 < (((List.length o) : Nat) : Int))) ∧ (((Int.toNat i1) = (Int.toNat i1)) ∧ (∃ n46 : Int, (∃ s23 : ByteArray, (∃ b23 : Bool, (∃ es96 : LL, (∃ es97 : LL, (∃ n47 : Int, (∃ es98 : LL, (∃ es99 : LL, (((o)[(Int.toNat i1)]? = (some [(FV.int .i64 n46), (FV.str s23), (FV.bool b23), (FV.sl 1 es96), (FV.sl 8 es97), (FV.int .i64 n47), (FV.sl 1 es98), (FV.sl 1 es99)])) ∧ ((((Int.toNat i1) < o1) ∧ (stx_ownO_L1 R x0 x1 x2 x5 i (IntKind.wrap .i64 (i1 + 1)) es es1 es2 (setC (List.set o (Int.toNat i1) [(FV.int .i64 n44), (FV.str s22), (FV.bool b22), (FV.sl 1 es93), (FV.sl 8 ([] : LL)), (FV.int .i64 n45), (FV.sl 1 es94), (FV.sl 1 es95)]) (Int.toNat i1) 4 (FV.sl 8 es92)) o1)) ∨ (((Int.toNat i1) = o1) ∧ (stx_ownO_L1 R x0 x1 x2 x5 i (IntKind.wrap .i64 (i1 + 1)) es es1 es2 (setC (List.set o (Int.toNat i1) [(FV.int .i64 n44), (FV.str s22), (FV.bool b22), (FV.sl 1 es93), (FV.sl 8 ([] : LL)), (FV.int .i64 n45), (FV.sl 1 es94), (FV.sl 1 es95)]) (Int.toNat i1) 4 (FV.sl 8 es92)) (o1 + 1)))))))))))))))))))))))))))))))))) ∨ ((o1 ≤ (Int.toNat i1)) ∧ (∃ n48 : Int, (∃ s24 : ByteArray, (∃ b24 : Bool, (∃ es100 : LL, (∃ es101 : LL, (∃ n49 : Int, (∃ es102 : LL, (∃ es103 : LL, (((o)[(Int.toNat i1)]? = (some [(FV.int .i64 n48), (FV.str s24), (FV.bool b24), (FV.sl 1 es100), (FV.sl 8 es101), (FV.int .i64 n49), (FV.sl 1 es102), (FV.sl 1 es103)])) ∧ (∃ es104 : LL, (∃ n50 : Int, (∃ s25 : ByteArray, (∃ b25 : Bool, (∃ es105 : LL, (∃ n51 : Int, (∃ es106 : LL, (∃ es107 : LL, ((Fn Tryz.prog 61 [(TV.agg [(AV.fz (FV.int .i64 n48)), (AV.fz (FV.str s24)), (AV.fz (FV.bool b24)), (AV.fz (FV.sl 1 es100)), (AV.fz (FV.sl 8 es101)), (AV.fz (FV.int .i64 n49)), (AV.fz (FV.sl 1 es102)), (AV.fz (FV.sl 1 es103))])] [] (TV.agg [(AV.fz (FV.int .i64 n50)), (AV.fz (FV.str s25)), (AV.fz (FV.bool b25)), (AV.fz (FV.sl 1 es105)), (AV.ofl 8 0), (AV.fz (FV.int .i64 n51)), (AV.fz (FV.sl 1 es106)), (AV.fz (FV.sl 1 es107))]) [(Ob.r 1 0 8 es104 none none)]) ∧ ((((0 : Int) ≤ i1) ∧ (i1 < (((List.length o) : Nat) : Int))) ∧ (∃ n52 : Int, (∃ s26 : ByteArray, (∃ b26 : Bool, (∃ es108 : LL, (∃ es109 : LL, (∃ n53 : Int, (∃ es110 : LL, (∃ es111 : LL, (((o)[(Int.toNat i1)]? = (some [(FV.int .i64 n52), (FV.str s26), (FV.bool b26), (FV.sl 1 es108), (FV.sl 8 es109), (FV.int .i64 n53), (FV.sl 1 es110), (FV.sl 1 es111)])) ∧ ((((Int.toNat i1) < o1) ∧ (stx_ownO_L1 R x0 x1 x2 x5 i (IntKind.wrap .i64 (i1 + 1)) es es1 es2 (setC (List.set o (Int.toNat i1) [(FV.int .i64 n50), (FV.str s25), (FV.bool b25), (FV.sl 1 es105), (FV.sl 8 ([] : LL)), (FV.int .i64 n51), (FV.sl 1 es106), (FV.sl 1 es107)]) (Int.toNat i1) 4 (FV.sl 8 es104)) o1)) ∨ (((Int.toNat i1) = o1) ∧ (stx_ownO_L1 R x0 x1 x2 x5 i (IntKind.wrap .i64 (i1 + 1)) es es1 es2 (setC (List.set o (Int.toNat i1) [(FV.int .i64 n50), (FV.str s25), (FV.bool b25), (FV.sl 1 es105), (FV.sl 8 ([] : LL)), (FV.int .i64 n51), (FV.sl 1 es106), (FV.sl 1 es107)]) (Int.toNat i1) 4 (FV.sl 8 es104)) (o1 + 1)))))))))))))))))))))))))))))))))))) ∧ (((decide (i1 < i)) = false) → (R (TV.agg [(AV.fz (FV.int .i64 x0)), (AV.fz (FV.str x1)), (AV.fz (FV.bool x2)), (AV.fz (FV.sl 1 es)), (AV.ofl 8 0), (AV.fz (FV.int .i64 x5)), (AV.fz (FV.sl 1 es1)), (AV.fz (FV.sl 1 es2))]) [(Ob.r 1 0 8 o (some o1) none)])))
theorem stx_ownO_l1 {R : TV → List Ob → Prop} {x0 : Int} {x1 : ByteArray} {x2 : Bool} {x5 : Int} {i : Int} {i1 : Int} {es : LL} {es1 : LL} {es2 : LL} {o : LL} {o1 : Nat} (h : stx_ownO_R1 R x0 x1 x2 x5 i i1 es es1 es2 o o1) : stx_ownO_L1 R x0 x1 x2 x5 i i1 es es1 es2 o o1 :=
 LoopAt.by_tr (by kernel_rfl) (by kernel_rfl) h
def stx_ownO_H (R : TV → List Ob → Prop) (x0 : Int) (x1 : ByteArray) (x2 : Bool) (x3 : LL) (x4 : LL) (x5 : Int) (x6 : LL) (x7 : LL) : Prop :=
 (∃ es88 : LL, ((Fn Tryz.prog 98 [(TV.one (AV.fz (FV.sl 1 x3)))] [] (TV.one (AV.fz (FV.sl 1 es88))) []) ∧ (∃ es89 : LL, ((Fn Tryz.prog 79 [(TV.one (AV.fz (FV.sl 1 x6)))] [] (TV.one (AV.fz (FV.sl 1 es89))) []) ∧ (∃ es90 : LL, ((Fn Tryz.prog 79 [(TV.one (AV.fz (FV.sl 1 x7)))] [] (TV.one (AV.fz (FV.sl 1 es90))) []) ∧ (∃ es91 : LL, ((Fn Tryz.prog 99 [(TV.one (AV.fz (FV.sl 8 x4)))] [] (TV.one (AV.ofl 8 0)) [(Ob.f 0 8 es91)]) ∧ (stx_ownO_L0 R x0 x1 x2 x5 es91 es88 es89 es90)))))))))
theorem stx_ownO_fn (x0 : Int) (x1 : ByteArray) (x2 : Bool) (x3 : LL) (x4 : LL) (x5 : Int) (x6 : LL) (x7 : LL) {r : TV} {h : List Ob} (H : stx_ownO_H (fun r' h' => r' = r ∧ Wk h' h) x0 x1 x2 x3 x4 x5 x6 x7) : Fn Tryz.prog 61 [(TV.agg [(AV.fz (FV.int .i64 x0)), (AV.fz (FV.str x1)), (AV.fz (FV.bool x2)), (AV.fz (FV.sl 1 x3)), (AV.fz (FV.sl 8 x4)), (AV.fz (FV.int .i64 x5)), (AV.fz (FV.sl 1 x6)), (AV.fz (FV.sl 1 x7))])] [] r h :=
 Fn.by_trW (M := (modeOf [99] [(61, [(Sig.mk 0 [(true, [(AT.k (CK.int .i64)), (AT.k CK.str), (AT.k CK.bool), (AT.k (CK.sl 1)), (AT.a (AV.ofl 8 0)), (AT.k (CK.int .i64)), (AT.k (CK.sl 1)), (AT.k (CK.sl 1))])] [(OT.r 1 8)] 0)])])) (lv := stx_ownO_lv) (own := (some 0)) (F := Tryz.f61) (by kernel_rfl) (by kernel_rfl) (by first | decide | simp) (fun _ _ h => h) (by kernel_rfl) H
def ofR_lv : List Nat → Keep := lvOf []
def ofR_H (R : TV → List Ob → Prop) (k : Int) (t : ByteArray) (n : Bool) (l : LL) (a : Int) (m : LL) (u : LL) (rows : LL) : Prop :=
 (R (TV.agg [(AV.fz (FV.sl 1 m)), (AV.fz (FV.sl 1 u))]) [(Ob.r 1 0 8 rows none none)])
theorem ofR_fn (k : Int) (t : ByteArray) (n : Bool) (l : LL) (a : Int) (m : LL) (u : LL) (rows : LL) {r : TV} {h : List Ob} (H : ofR_H (fun r' h' => r' = r ∧ Wk h' h) k t n l a m u rows) : Fn Tryz.prog 59 [(TV.agg [(AV.fz (FV.int .i64 k)), (AV.fz (FV.str t)), (AV.fz (FV.bool n)), (AV.fz (FV.sl 1 l)), (AV.ofl 8 0), (AV.fz (FV.int .i64 a)), (AV.fz (FV.sl 1 m)), (AV.fz (FV.sl 1 u))])] [(Ob.r 1 0 8 rows none none)] r h :=
 Fn.by_trW (M := (modeOf [] [])) (lv := ofR_lv) (own := (some 1)) (F := Tryz.f59) (by kernel_rfl) (by kernel_rfl) (by first | decide | simp) (fun _ _ h => h) (by kernel_rfl) H
def withR_lv : List Nat → Keep := lvOf []
def withR_H (R : TV → List Ob → Prop) (k : Int) (t : ByteArray) (n : Bool) (l : LL) (a : Int) (m : LL) (u : LL) (wm : LL) (wu : LL) (rows : LL) : Prop :=
 (R (TV.agg [(AV.fz (FV.int .i64 k)), (AV.fz (FV.str t)), (AV.fz (FV.bool n)), (AV.fz (FV.sl 1 l)), (AV.ofl 8 0), (AV.fz (FV.int .i64 a)), (AV.fz (FV.sl 1 wm)), (AV.fz (FV.sl 1 wu))]) [(Ob.r 1 0 8 rows none none)])
theorem withR_fn (k : Int) (t : ByteArray) (n : Bool) (l : LL) (a : Int) (m : LL) (u : LL) (wm : LL) (wu : LL) (rows : LL) {r : TV} {h : List Ob} (H : withR_H (fun r' h' => r' = r ∧ Wk h' h) k t n l a m u wm wu rows) : Fn Tryz.prog 60 [(TV.agg [(AV.fz (FV.int .i64 k)), (AV.fz (FV.str t)), (AV.fz (FV.bool n)), (AV.fz (FV.sl 1 l)), (AV.ofl 8 0), (AV.fz (FV.int .i64 a)), (AV.fz (FV.sl 1 m)), (AV.fz (FV.sl 1 u))]), (TV.agg [(AV.fz (FV.sl 1 wm)), (AV.fz (FV.sl 1 wu))])] [(Ob.r 1 0 8 rows none none)] r h :=
 Fn.by_trW (M := (modeOf [] [])) (lv := withR_lv) (own := (some 1)) (F := Tryz.f60) (by kernel_rfl) (by kernel_rfl) (by first | decide | simp) (fun _ _ h => h) (by kernel_rfl) H
def openedR_lv : List Nat → Keep := lvOf [([0, 1, 0, 1, 1, 1, 1], ⟨917518, 0, [], false, false⟩)]
def openedR_S0 (k : Int) (t : ByteArray) (n : Bool) (l : LL) (a : Int) (i : Int) (i1 : Int) (es : LL) (es1 : LL) (es2 : LL) : St := (St.mk [TV.und, (TV.one (AV.ptr 1 0 0 0)), (TV.one (AV.ptr 2 0 0 0)), (TV.one (AV.ptr 3 0 0 0)), TV.und, TV.und, TV.und, TV.und, TV.und, TV.und, TV.und, TV.und, TV.und, TV.und, TV.und, TV.und, TV.und, (TV.one (AV.ofl 8 0)), (TV.one (AV.fz (FV.int .i64 i))), (TV.one (AV.fz (FV.int .i64 i1))), TV.und, TV.und, TV.und, TV.und, TV.und, TV.und, TV.und, TV.und, TV.und, TV.und, TV.und, TV.und, TV.und, TV.und, TV.und, TV.und, TV.und, TV.und, TV.und, TV.und] [(Ob.r 1 0 8 es none none), (Ob.g 28 [(AV.fz (FV.int .i64 k)), (AV.fz (FV.str t)), (AV.fz (FV.bool n)), (AV.fz (FV.sl 1 l)), (AV.ofl 8 0), (AV.fz (FV.int .i64 a)), (AV.ofl 1 4), (AV.ofl 1 5)]), (Ob.g 28 [(AV.fz (FV.int .i64 0)), (AV.fz (FV.str (ByteArray.mk #[]))), (AV.fz (FV.bool false)), (AV.ofl 1 6), (AV.ofl 8 7), (AV.fz (FV.int .i64 0)), (AV.ofl 1 8), (AV.ofl 1 9)]), (Ob.g 30 [(AV.fz (FV.sl 1 es1)), (AV.fz (FV.sl 1 es2))]), (Ob.f 0 1 ([] : LL)), (Ob.f 0 1 ([] : LL)), (Ob.f 0 1 ([] : LL)), (Ob.f 0 8 ([] : LL)), (Ob.f 0 1 ([] : LL)), (Ob.f 0 1 ([] : LL))])
def openedR_L0 (R : TV → List Ob → Prop) (k : Int) (t : ByteArray) (n : Bool) (l : LL) (a : Int) (i : Int) (i1 : Int) (es : LL) (es1 : LL) (es2 : LL) : Prop := LoopAt Tryz.prog (modeOf [] [(59, [(Sig.mk 1 [(true, [(AT.k (CK.sl 1)), (AT.k (CK.sl 1))])] [(OT.r 1 8)] 1)]), (60, [(Sig.mk 1 [(true, [(AT.k (CK.int .i64)), (AT.k CK.str), (AT.k CK.bool), (AT.k (CK.sl 1)), (AT.a (AV.ofl 8 0)), (AT.k (CK.int .i64)), (AT.k (CK.sl 1)), (AT.k (CK.sl 1))])] [(OT.r 1 8)] 1)])]) openedR_lv Tryz.f66 (some 1) R [1, 1, 1, 1, 0, 1, 0] (openedR_S0 k t n l a i i1 es es1 es2)
def openedR_R0 (R : TV → List Ob → Prop) (k : Int) (t : ByteArray) (n : Bool) (l : LL) (a : Int) (i : Int) (i1 : Int) (es : LL) (es1 : LL) (es2 : LL) : Prop :=
 ((((decide (i1 < i)) = true) → ((((0 : Int) ≤ i1) ∧ (i1 < (((List.length es) : Nat) : Int))) ∧ (∃ n15 : Int, (∃ s6 : ByteArray, (∃ b7 : Bool, (∃ es37 : LL, (∃ es38 : LL, (∃ n16 : Int, (∃ es39 : LL, (∃ es40 : LL, (((es)[(Int.toNat i1)]? = (some [(FV.int .i64 n15), (FV.str s6), (FV.bool b7), (FV.sl 1 es37), (FV.sl 8 es38), (FV.int .i64 n16), (FV.sl 1 es39), (FV.sl 1 es40)])) ∧ (∃ es41 : LL, (∃ es42 : LL, (∃ es43 : LL, ((Fn Tryz.prog 59 [(TV.agg [(AV.fz (FV.int .i64 n15)), (AV.fz (FV.str s6)), (AV.fz (FV.bool b7)), (AV.fz (FV.sl 1 es37)), (AV.ofl 8 0), (AV.fz (FV.int .i64 n16)), (AV.fz (FV.sl 1 es39)), (AV.fz (FV.sl 1 es40))])] [(Ob.r 1 0 8 es38 none none)] (TV.agg [(AV.fz (FV.sl 1 es42)), (AV.fz (FV.sl 1 es43))]) [(Ob.r 1 0 8 es41 none none)]) ∧ (∃ es44 : LL, (∃ es45 : LL, (∃ n17 : Int, ((Fn Tryz.prog 32 [(TV.agg [(AV.fz (FV.sl 1 es1)), (AV.fz (FV.sl 1 es2))]), (TV.agg [(AV.fz (FV.sl 1 es42)), (AV.fz (FV.sl 1 es43))])] [] (TV.tup [(true, [(AV.fz (FV.sl 1 es44)), (AV.fz (FV.sl 1 es45))]), (false, [(AV.fz (FV.int .i64 n17))])]) []) ∧ (∃ es46 : LL, (∃ n18 : Int, (∃ s7 : ByteArray, (∃ b8 : Bool, (∃ es47 : LL, (∃ n19 : Int, (∃ es48 : LL, (∃ es49 : LL, ((Fn Tryz.prog 60 [(TV.agg [(AV.fz (FV.int .i64 n15)), (AV.fz (FV.str s6)), (AV.fz (FV.bool b7)), (AV.fz (FV.sl 1 es37)), (AV.ofl 8 0), (AV.fz (FV.int .i64 n16)), (AV.fz (FV.sl 1 es39)), (AV.fz (FV.sl 1 es40))]), (TV.agg [(AV.fz (FV.sl 1 es44)), (AV.fz (FV.sl 1 es45))])] [(Ob.r 1 0 8 es41 none none)] (TV.agg [(AV.fz (FV.int .i64 n18)), (AV.fz (FV.str s7)), (AV.fz (FV.bool b8)), (AV.fz (FV.sl 1 es47)), (AV.ofl 8 0), (AV.fz (FV.int .i64 n19)), (AV.fz (FV.sl 1 es48)), (AV.fz (FV.sl 1 es49))]) [(Ob.r 1 0 8 es46 none none)]) ∧ ((((0 : Int) ≤ i1) ∧ (i1 < (((List.length es) : Nat) : Int))) ∧ (((Int.toNat i1) = (Int.toNat i1)) ∧ (∃ n20 : Int, (∃ s8 : ByteArray, (∃ b9 : Bool, (∃ es50 : LL, (∃ es51 : LL, (∃ n21 : Int, (∃ es52 : LL, (∃ es53 : LL, (((es)[(Int.toNat i1)]? = (some [(FV.int .i64 n20), (FV.str s8), (FV.bool b9), (FV.sl 1 es50), (FV.sl 8 es51), (FV.int .i64 n21), (FV.sl 1 es52), (FV.sl 1 es53)])) ∧ (openedR_L0 R k t n l a i (IntKind.wrap .i64 (i1 + 1)) (setC (List.set es (Int.toNat i1) [(FV.int .i64 n18), (FV.str s7), (FV.bool b8), (FV.sl 1 es47), (FV.sl 8 ([] : LL)), (FV.int .i64 n19), (FV.sl 1 es48), (FV.sl 1 es49)]) (Int.toNat i1) 4 (FV.sl 8 es46)) es1 es2)))))))))))))))))))))))))))))))))))))))) ∧ (((decide (i1 < i)) = false) → (R (TV.agg [(AV.fz (FV.int .i64 k)), (AV.fz (FV.str t)), (AV.fz (FV.bool n)), (AV.fz (FV.sl 1 l)), (AV.ofl 8 0), (AV.fz (FV.int .i64 a)), (AV.ofl 1 1), (AV.ofl 1 2)]) [(Ob.r 1 0 8 es none none), (Ob.f 0 1 ([] : LL)), (Ob.f 0 1 ([] : LL))])))
theorem openedR_l0 {R : TV → List Ob → Prop} {k : Int} {t : ByteArray} {n : Bool} {l : LL} {a : Int} {i : Int} {i1 : Int} {es : LL} {es1 : LL} {es2 : LL} (h : openedR_R0 R k t n l a i i1 es es1 es2) : openedR_L0 R k t n l a i i1 es es1 es2 :=
 LoopAt.by_tr (by kernel_rfl) (by kernel_rfl) h
def openedR_H (R : TV → List Ob → Prop) (k : Int) (t : ByteArray) (n : Bool) (l : LL) (a : Int) (m : LL) (u : LL) (rows : LL) : Prop :=
 (∃ b7 : Bool, ((Fn Tryz.prog 101 [(TV.agg [(AV.fz (FV.int .i64 k)), (AV.fz (FV.str t)), (AV.fz (FV.bool n)), (AV.fz (FV.sl 1 l)), (AV.fz (FV.sl 8 rows)), (AV.fz (FV.int .i64 a)), (AV.fz (FV.sl 1 m)), (AV.fz (FV.sl 1 u))])] [] (TV.one (AV.fz (FV.bool b7))) []) ∧ ((((Bool.not b7) = true) → (R (TV.agg [(AV.fz (FV.int .i64 k)), (AV.fz (FV.str t)), (AV.fz (FV.bool n)), (AV.fz (FV.sl 1 l)), (AV.ofl 8 0), (AV.fz (FV.int .i64 a)), (AV.fz (FV.sl 1 m)), (AV.fz (FV.sl 1 u))]) [(Ob.r 1 0 8 rows none none)])) ∧ (((Bool.not b7) = false) → (∃ es37 : LL, (∃ es38 : LL, (∃ es39 : LL, ((Fn Tryz.prog 59 [(TV.agg [(AV.fz (FV.int .i64 k)), (AV.fz (FV.str t)), (AV.fz (FV.bool n)), (AV.fz (FV.sl 1 l)), (AV.ofl 8 0), (AV.fz (FV.int .i64 a)), (AV.fz (FV.sl 1 m)), (AV.fz (FV.sl 1 u))])] [(Ob.r 1 0 8 rows none none)] (TV.agg [(AV.fz (FV.sl 1 es38)), (AV.fz (FV.sl 1 es39))]) [(Ob.r 1 0 8 es37 none none)]) ∧ (openedR_L0 R k t n l a (((List.length es37) : Nat) : Int) 0 es37 es38 es39)))))))))
theorem openedR_fk (nk : Nat) (k : Int) (t : ByteArray) (n : Bool) (l : LL) (a : Int) (m : LL) (u : LL) (rows : LL) (hlk : List.length ([(Ob.r 1 0 8 rows none none)] : List Ob) ≤ nk) {r : TV} {h : List Ob} (H : openedR_H (fun r' h' => Cool nk r' h' r h) k t n l a m u rows) : Fn Tryz.prog 66 [(TV.agg [(AV.fz (FV.int .i64 k)), (AV.fz (FV.str t)), (AV.fz (FV.bool n)), (AV.fz (FV.sl 1 l)), (AV.ofl 8 0), (AV.fz (FV.int .i64 a)), (AV.fz (FV.sl 1 m)), (AV.fz (FV.sl 1 u))])] [(Ob.r 1 0 8 rows none none)] r h :=
 Fn.by_trK nk (M := (modeOf [] [(59, [(Sig.mk 1 [(true, [(AT.k (CK.sl 1)), (AT.k (CK.sl 1))])] [(OT.r 1 8)] 1)]), (60, [(Sig.mk 1 [(true, [(AT.k (CK.int .i64)), (AT.k CK.str), (AT.k CK.bool), (AT.k (CK.sl 1)), (AT.a (AV.ofl 8 0)), (AT.k (CK.int .i64)), (AT.k (CK.sl 1)), (AT.k (CK.sl 1))])] [(OT.r 1 8)] 1)])])) (lv := openedR_lv) (own := (some 1)) (F := Tryz.f66) (by kernel_rfl) (by kernel_rfl) (by first | decide | simp) hlk (fun _ _ h => h) (by kernel_rfl) H
def stxO_Open_lv : List Nat → Keep := lvOf []
def stxO_Open_H (R : TV → List Ob → Prop) (x0 : Int) (x1 : ByteArray) (x2 : Bool) (x3 : LL) (x4 : LL) (x5 : Int) (x6 : LL) (x7 : LL) : Prop :=
 (∃ b3 : Bool, ((Fn Tryz.prog 57 [(TV.agg [(AV.fz (FV.int .i64 x0)), (AV.fz (FV.str x1)), (AV.fz (FV.bool x2)), (AV.fz (FV.sl 1 x3)), (AV.fz (FV.sl 8 x4)), (AV.fz (FV.int .i64 x5)), (AV.fz (FV.sl 1 x6)), (AV.fz (FV.sl 1 x7))])] [] (TV.one (AV.fz (FV.bool b3))) []) ∧ ((((Bool.not b3) = true) → (R (TV.tup [(true, [(AV.fz (FV.int .i64 0)), (AV.fz (FV.str (ByteArray.mk #[]))), (AV.fz (FV.bool false)), (AV.ofl 1 0), (AV.ofl 8 1), (AV.fz (FV.int .i64 0)), (AV.ofl 1 2), (AV.ofl 1 3)]), (false, [(AV.fz (FV.int .i64 2))])]) [(Ob.f 0 1 ([] : LL)), (Ob.f 0 8 ([] : LL)), (Ob.f 0 1 ([] : LL)), (Ob.f 0 1 ([] : LL))])) ∧ (((Bool.not b3) = false) → (∃ es8 : LL, (∃ n4 : Int, (∃ s2 : ByteArray, (∃ b4 : Bool, (∃ es9 : LL, (∃ n5 : Int, (∃ es10 : LL, (∃ es11 : LL, ((Fn Tryz.prog 61 [(TV.agg [(AV.fz (FV.int .i64 x0)), (AV.fz (FV.str x1)), (AV.fz (FV.bool x2)), (AV.fz (FV.sl 1 x3)), (AV.fz (FV.sl 8 x4)), (AV.fz (FV.int .i64 x5)), (AV.fz (FV.sl 1 x6)), (AV.fz (FV.sl 1 x7))])] [] (TV.agg [(AV.fz (FV.int .i64 n4)), (AV.fz (FV.str s2)), (AV.fz (FV.bool b4)), (AV.fz (FV.sl 1 es9)), (AV.ofl 8 0), (AV.fz (FV.int .i64 n5)), (AV.fz (FV.sl 1 es10)), (AV.fz (FV.sl 1 es11))]) [(Ob.r 1 0 8 es8 none none)]) ∧ (∃ es12 : LL, (∃ n6 : Int, (∃ s3 : ByteArray, (∃ b5 : Bool, (∃ es13 : LL, (∃ n7 : Int, (∃ es14 : LL, (∃ es15 : LL, ((Fn Tryz.prog 66 [(TV.agg [(AV.fz (FV.int .i64 n4)), (AV.fz (FV.str s2)), (AV.fz (FV.bool b4)), (AV.fz (FV.sl 1 es9)), (AV.ofl 8 0), (AV.fz (FV.int .i64 n5)), (AV.fz (FV.sl 1 es10)), (AV.fz (FV.sl 1 es11))])] [(Ob.r 1 0 8 es8 none none)] (TV.agg [(AV.fz (FV.int .i64 n6)), (AV.fz (FV.str s3)), (AV.fz (FV.bool b5)), (AV.fz (FV.sl 1 es13)), (AV.ofl 8 0), (AV.fz (FV.int .i64 n7)), (AV.fz (FV.sl 1 es14)), (AV.fz (FV.sl 1 es15))]) [(Ob.r 1 0 8 es12 none none)]) ∧ (R (TV.tup [(true, [(AV.fz (FV.int .i64 n6)), (AV.fz (FV.str s3)), (AV.fz (FV.bool b5)), (AV.fz (FV.sl 1 es13)), (AV.ofl 8 0), (AV.fz (FV.int .i64 n7)), (AV.fz (FV.sl 1 es14)), (AV.fz (FV.sl 1 es15))]), (false, [(AV.fz (FV.int .i64 0))])]) [(Ob.r 1 0 8 es12 none none)])))))))))))))))))))))))
theorem stxO_Open_fc (x0 : Int) (x1 : ByteArray) (x2 : Bool) (x3 : LL) (x4 : LL) (x5 : Int) (x6 : LL) (x7 : LL) {r : TV} {h : List Ob} (H : stxO_Open_H (fun r' h' => Cool 0 r' h' r h) x0 x1 x2 x3 x4 x5 x6 x7) : Fn Tryz.prog 21 [(TV.agg [(AV.fz (FV.int .i64 x0)), (AV.fz (FV.str x1)), (AV.fz (FV.bool x2)), (AV.fz (FV.sl 1 x3)), (AV.fz (FV.sl 8 x4)), (AV.fz (FV.int .i64 x5)), (AV.fz (FV.sl 1 x6)), (AV.fz (FV.sl 1 x7))])] [] r h :=
 Fn.by_trC (M := (modeOf [] [(61, [(Sig.mk 0 [(true, [(AT.k (CK.int .i64)), (AT.k CK.str), (AT.k CK.bool), (AT.k (CK.sl 1)), (AT.a (AV.ofl 8 0)), (AT.k (CK.int .i64)), (AT.k (CK.sl 1)), (AT.k (CK.sl 1))])] [(OT.r 1 8)] 0)]), (66, [(Sig.mk 1 [(true, [(AT.k (CK.int .i64)), (AT.k CK.str), (AT.k CK.bool), (AT.k (CK.sl 1)), (AT.a (AV.ofl 8 0)), (AT.k (CK.int .i64)), (AT.k (CK.sl 1)), (AT.k (CK.sl 1))])] [(OT.r 1 8)] 1)])])) (lv := stxO_Open_lv) (own := (some 0)) (F := Tryz.f21) (by kernel_rfl) (by kernel_rfl) (by first | decide | simp) (fun _ _ h => h) (by kernel_rfl) H
theorem stxO_Open_fk (nk : Nat) (x0 : Int) (x1 : ByteArray) (x2 : Bool) (x3 : LL) (x4 : LL) (x5 : Int) (x6 : LL) (x7 : LL) (hlk : List.length ([] : List Ob) ≤ nk) {r : TV} {h : List Ob} (H : stxO_Open_H (fun r' h' => Cool nk r' h' r h) x0 x1 x2 x3 x4 x5 x6 x7) : Fn Tryz.prog 21 [(TV.agg [(AV.fz (FV.int .i64 x0)), (AV.fz (FV.str x1)), (AV.fz (FV.bool x2)), (AV.fz (FV.sl 1 x3)), (AV.fz (FV.sl 8 x4)), (AV.fz (FV.int .i64 x5)), (AV.fz (FV.sl 1 x6)), (AV.fz (FV.sl 1 x7))])] [] r h :=
 Fn.by_trK nk (M := (modeOf [] [(61, [(Sig.mk 0 [(true, [(AT.k (CK.int .i64)), (AT.k CK.str), (AT.k CK.bool), (AT.k (CK.sl 1)), (AT.a (AV.ofl 8 0)), (AT.k (CK.int .i64)), (AT.k (CK.sl 1)), (AT.k (CK.sl 1))])] [(OT.r 1 8)] 0)]), (66, [(Sig.mk 1 [(true, [(AT.k (CK.int .i64)), (AT.k CK.str), (AT.k CK.bool), (AT.k (CK.sl 1)), (AT.a (AV.ofl 8 0)), (AT.k (CK.int .i64)), (AT.k (CK.sl 1)), (AT.k (CK.sl 1))])] [(OT.r 1 8)] 1)])])) (lv := stxO_Open_lv) (own := (some 0)) (F := Tryz.f21) (by kernel_rfl) (by kernel_rfl) (by first | decide | simp) hlk (fun _ _ h => h) (by kernel_rfl) H
def stx_alike_lv : List Nat → Keep := lvOf []
def stx_alike_H (R : TV → List Ob → Prop) (pk : Int) (pt : ByteArray) (pn : Bool) (pl : LL) (px : LL) (pa : Int) (pm : LL) (pu : LL) (qk : Int) (qt : ByteArray) (qn : Bool) (ql : LL) (qx : LL) (qa : Int) (qm : LL) (qu : LL) : Prop :=
 (∃ es4 : LL, (∃ es5 : LL, ((Fn Tryz.prog 59 [(TV.agg [(AV.fz (FV.int .i64 pk)), (AV.fz (FV.str pt)), (AV.fz (FV.bool pn)), (AV.fz (FV.sl 1 pl)), (AV.fz (FV.sl 8 px)), (AV.fz (FV.int .i64 pa)), (AV.fz (FV.sl 1 pm)), (AV.fz (FV.sl 1 pu))])] [] (TV.agg [(AV.fz (FV.sl 1 es4)), (AV.fz (FV.sl 1 es5))]) []) ∧ (∃ es6 : LL, (∃ es7 : LL, ((Fn Tryz.prog 59 [(TV.agg [(AV.fz (FV.int .i64 qk)), (AV.fz (FV.str qt)), (AV.fz (FV.bool qn)), (AV.fz (FV.sl 1 ql)), (AV.fz (FV.sl 8 qx)), (AV.fz (FV.int .i64 qa)), (AV.fz (FV.sl 1 qm)), (AV.fz (FV.sl 1 qu))])] [] (TV.agg [(AV.fz (FV.sl 1 es6)), (AV.fz (FV.sl 1 es7))]) []) ∧ (∃ b3 : Bool, ((Fn Tryz.prog 103 [(TV.agg [(AV.fz (FV.sl 1 es4)), (AV.fz (FV.sl 1 es5))]), (TV.agg [(AV.fz (FV.sl 1 es6)), (AV.fz (FV.sl 1 es7))])] [] (TV.one (AV.fz (FV.bool b3))) []) ∧ (((b3 = true) → ((((pk == qk) = true) → (((((ByteArray.toList pt) == (ByteArray.toList qt)) = true) → ((((pn == qn) = true) → (∃ b4 : Bool, ((Fn Tryz.prog 104 [(TV.one (AV.fz (FV.sl 1 pl))), (TV.one (AV.fz (FV.sl 1 ql)))] [] (TV.one (AV.fz (FV.bool b4))) []) ∧ (((b4 = true) → (∃ b5 : Bool, ((Fn Tryz.prog 105 [(TV.one (AV.fz (FV.sl 8 px))), (TV.one (AV.fz (FV.sl 8 qx))), (TV.one (AV.fz (FV.fn 73 [])))] [] (TV.one (AV.fz (FV.bool b5))) []) ∧ (R (TV.one (AV.fz (FV.bool b5))) [])))) ∧ ((b4 = false) → (R (TV.one (AV.fz (FV.bool false))) [])))))) ∧ (((pn == qn) = false) → (R (TV.one (AV.fz (FV.bool false))) [])))) ∧ ((((ByteArray.toList pt) == (ByteArray.toList qt)) = false) → (R (TV.one (AV.fz (FV.bool false))) [])))) ∧ (((pk == qk) = false) → (R (TV.one (AV.fz (FV.bool false))) [])))) ∧ ((b3 = false) → (R (TV.one (AV.fz (FV.bool false))) [])))))))))))
theorem stx_alike_fn (pk : Int) (pt : ByteArray) (pn : Bool) (pl : LL) (px : LL) (pa : Int) (pm : LL) (pu : LL) (qk : Int) (qt : ByteArray) (qn : Bool) (ql : LL) (qx : LL) (qa : Int) (qm : LL) (qu : LL) {r : TV} {h : List Ob} (H : stx_alike_H (fun r' h' => r' = r ∧ h' = h) pk pt pn pl px pa pm pu qk qt qn ql qx qa qm qu) : Fn Tryz.prog 73 [(TV.agg [(AV.fz (FV.int .i64 pk)), (AV.fz (FV.str pt)), (AV.fz (FV.bool pn)), (AV.fz (FV.sl 1 pl)), (AV.fz (FV.sl 8 px)), (AV.fz (FV.int .i64 pa)), (AV.fz (FV.sl 1 pm)), (AV.fz (FV.sl 1 pu))]), (TV.agg [(AV.fz (FV.int .i64 qk)), (AV.fz (FV.str qt)), (AV.fz (FV.bool qn)), (AV.fz (FV.sl 1 ql)), (AV.fz (FV.sl 8 qx)), (AV.fz (FV.int .i64 qa)), (AV.fz (FV.sl 1 qm)), (AV.fz (FV.sl 1 qu))])] [] r h :=
 Fn.by_tr (M := (modeOf [] [])) (lv := stx_alike_lv) (own := none) (F := Tryz.f73) (by kernel_rfl) (by kernel_rfl) (by first | decide | simp) (fun _ _ h => h) (by kernel_rfl) H
def eqAlike_lv : List Nat → Keep := lvOf [([0, 1, 0, 1, 1], ⟨229382, 0, [], false, false⟩)]
def eqAlike_S0 (s1 : LL) (s2 : LL) (i : Int) : St := (St.mk [TV.und, (TV.one (AV.fz (FV.sl 8 s2))), (TV.one (AV.fz (FV.fn 73 []))), TV.und, TV.und, TV.und, TV.und, TV.und, TV.und, TV.und, TV.und, TV.und, TV.und, TV.und, TV.und, (TV.one (AV.fz (FV.sl 8 s1))), (TV.one (AV.fz (FV.int .i64 (((List.length s1) : Nat) : Int)))), (TV.one (AV.fz (FV.int .i64 i))), TV.und, TV.und, TV.und, TV.und, TV.und, TV.und, TV.und, TV.und, TV.und, TV.und, TV.und, TV.und, TV.und, TV.und] [])
def eqAlike_L0 (R : TV → List Ob → Prop) (s1 : LL) (s2 : LL) (i : Int) : Prop := LoopAt Tryz.prog (modeOf [] []) eqAlike_lv Tryz.f105 none R [1, 1, 0, 1, 0] (eqAlike_S0 s1 s2 i)
def eqAlike_R0 (R : TV → List Ob → Prop) (s1 : List (List FV)) (s2 : List (List FV)) (i : Int) : Prop :=
 ((((decide (i < (((List.length s1) : Nat) : Int))) = true) → (((0 : Int) ≤ i) ∧ (∃ n8 : Int, (∃ s4 : ByteArray, (∃ b6 : Bool, (∃ es16 : LL, (∃ es17 : LL, (∃ n9 : Int, (∃ es18 : LL, (∃ es19 : LL, (((s1)[(Int.toNat i)]? = (some [(FV.int .i64 n8), (FV.str s4), (FV.bool b6), (FV.sl 1 es16), (FV.sl 8 es17), (FV.int .i64 n9), (FV.sl 1 es18), (FV.sl 1 es19)])) ∧ (((0 : Int) ≤ i) ∧ (∃ n10 : Int, (∃ s5 : ByteArray, (∃ b7 : Bool, (∃ es20 : LL, (∃ es21 : LL, (∃ n11 : Int, (∃ es22 : LL, (∃ es23 : LL, (((s2)[(Int.toNat i)]? = (some [(FV.int .i64 n10), (FV.str s5), (FV.bool b7), (FV.sl 1 es20), (FV.sl 8 es21), (FV.int .i64 n11), (FV.sl 1 es22), (FV.sl 1 es23)])) ∧ (∃ b8 : Bool, ((Fn Tryz.prog 73 [(TV.agg [(AV.fz (FV.int .i64 n8)), (AV.fz (FV.str s4)), (AV.fz (FV.bool b6)), (AV.fz (FV.sl 1 es16)), (AV.fz (FV.sl 8 es17)), (AV.fz (FV.int .i64 n9)), (AV.fz (FV.sl 1 es18)), (AV.fz (FV.sl 1 es19))]), (TV.agg [(AV.fz (FV.int .i64 n10)), (AV.fz (FV.str s5)), (AV.fz (FV.bool b7)), (AV.fz (FV.sl 1 es20)), (AV.fz (FV.sl 8 es21)), (AV.fz (FV.int .i64 n11)), (AV.fz (FV.sl 1 es22)), (AV.fz (FV.sl 1 es23))])] [] (TV.one (AV.fz (FV.bool b8))) []) ∧ ((((Bool.not b8) = true) → (R (TV.one (AV.fz (FV.bool false))) [])) ∧ (((Bool.not b8) = false) → (eqAlike_L0 R s1 s2 (IntKind.wrap .i64 (i + 1)))))))))))))))))))))))))))) ∧ (((decide (i < (((List.length s1) : Nat) : Int))) = false) → (R (TV.one (AV.fz (FV.bool true))) [])))
theorem eqAlike_l0 {R : TV → List Ob → Prop} {s1 : LL} {s2 : LL} {i : Int} (h : eqAlike_R0 R s1 s2 i) : eqAlike_L0 R s1 s2 i :=
 LoopAt.by_tr (by kernel_rfl) (by kernel_rfl) h
def eqAlike_H (R : TV → List Ob → Prop) (s1 : List (List FV)) (s2 : List (List FV)) : Prop :=
 (((((((List.length s1) : Nat) : Int) != (((List.length s2) : Nat) : Int)) = true) → (R (TV.one (AV.fz (FV.bool false))) [])) ∧ ((((((List.length s1) : Nat) : Int) != (((List.length s2) : Nat) : Int)) = false) → (eqAlike_L0 R s1 s2 0)))
theorem eqAlike_fn (s1 : LL) (s2 : LL) {r : TV} {h : List Ob} (H : eqAlike_H (fun r' h' => r' = r ∧ h' = h) s1 s2) : Fn Tryz.prog 105 [(TV.one (AV.fz (FV.sl 8 s1))), (TV.one (AV.fz (FV.sl 8 s2))), (TV.one (AV.fz (FV.fn 73 [])))] [] r h :=
 Fn.by_tr (M := (modeOf [] [])) (lv := eqAlike_lv) (own := none) (F := Tryz.f105) (by kernel_rfl) (by kernel_rfl) (by first | decide | simp) (fun _ _ h => h) (by kernel_rfl) H
def ref09_Flat_lv : List Nat → Keep := lvOf []
def ref09_Flat_H (R : TV → List Ob → Prop) (x0 : Int) (x1 : ByteArray) (x2 : Bool) (x3 : LL) (x4 : LL) (x5 : Int) (x6 : LL) (x7 : LL) : Prop :=
 (∃ b3 : Bool, ((Fn Tryz.prog 23 [(TV.agg [(AV.fz (FV.int .i64 x0)), (AV.fz (FV.str x1)), (AV.fz (FV.bool x2)), (AV.fz (FV.sl 1 x3)), (AV.fz (FV.sl 8 x4)), (AV.fz (FV.int .i64 x5)), (AV.fz (FV.sl 1 x6)), (AV.fz (FV.sl 1 x7))])] [] (TV.one (AV.fz (FV.bool b3))) []) ∧ ((((Bool.not b3) = true) → (R (TV.tup [(true, [(AV.fz (FV.int .i64 0)), (AV.fz (FV.str (ByteArray.mk #[]))), (AV.fz (FV.bool false)), (AV.fz (FV.sl 1 ([] : LL))), (AV.fz (FV.sl 8 ([] : LL))), (AV.fz (FV.int .i64 0)), (AV.fz (FV.sl 1 ([] : LL))), (AV.fz (FV.sl 1 ([] : LL)))]), (false, [(AV.fz (FV.int .i64 2))])]) [])) ∧ (((Bool.not b3) = false) → (∃ n2 : Int, (∃ s1 : ByteArray, (∃ b4 : Bool, (∃ es4 : LL, (∃ es5 : LL, (∃ n3 : Int, (∃ es6 : LL, (∃ es7 : LL, (∃ b5 : Bool, ((Fn Tryz.prog 71 [(TV.agg [(AV.fz (FV.int .i64 x0)), (AV.fz (FV.str x1)), (AV.fz (FV.bool x2)), (AV.fz (FV.sl 1 x3)), (AV.fz (FV.sl 8 x4)), (AV.fz (FV.int .i64 x5)), (AV.fz (FV.sl 1 x6)), (AV.fz (FV.sl 1 x7))]), (TV.one (AV.fz (FV.sl 1 ([] : LL)))), (TV.one (AV.fz (FV.sl 1 ([] : LL))))] [] (TV.tup [(true, [(AV.fz (FV.int .i64 n2)), (AV.fz (FV.str s1)), (AV.fz (FV.bool b4)), (AV.fz (FV.sl 1 es4)), (AV.fz (FV.sl 8 es5)), (AV.fz (FV.int .i64 n3)), (AV.fz (FV.sl 1 es6)), (AV.fz (FV.sl 1 es7))]), (false, [(AV.fz (FV.bool b5))])]) []) ∧ (R (TV.tup [(true, [(AV.fz (FV.int .i64 n2)), (AV.fz (FV.str s1)), (AV.fz (FV.bool b4)), (AV.fz (FV.sl 1 es4)), (AV.fz (FV.sl 8 es5)), (AV.fz (FV.int .i64 n3)), (AV.fz (FV.sl 1 es6)), (AV.fz (FV.sl 1 es7))]), (false, [(AV.fz (FV.int .i64 0))])]) [])))))))))))))))
theorem ref09_Flat_fn (x0 : Int) (x1 : ByteArray) (x2 : Bool) (x3 : LL) (x4 : LL) (x5 : Int) (x6 : LL) (x7 : LL) {r : TV} {h : List Ob} (H : ref09_Flat_H (fun r' h' => r' = r ∧ h' = h) x0 x1 x2 x3 x4 x5 x6 x7) : Fn Tryz.prog 24 [(TV.agg [(AV.fz (FV.int .i64 x0)), (AV.fz (FV.str x1)), (AV.fz (FV.bool x2)), (AV.fz (FV.sl 1 x3)), (AV.fz (FV.sl 8 x4)), (AV.fz (FV.int .i64 x5)), (AV.fz (FV.sl 1 x6)), (AV.fz (FV.sl 1 x7))])] [] r h :=
 Fn.by_tr (M := (modeOf [] [])) (lv := ref09_Flat_lv) (own := none) (F := Tryz.f24) (by kernel_rfl) (by kernel_rfl) (by first | decide | simp) (fun _ _ h => h) (by kernel_rfl) H
def ref09_Same_lv : List Nat → Keep := lvOf []
def ref09_Same_H (R : TV → List Ob → Prop) (pk : Int) (pt : ByteArray) (pn : Bool) (pl : LL) (px : LL) (pa : Int) (pm : LL) (pu : LL) (qk : Int) (qt : ByteArray) (qn : Bool) (ql : LL) (qx : LL) (qa : Int) (qm : LL) (qu : LL) : Prop :=
 (∃ n6 : Int, (∃ s2 : ByteArray, (∃ b3 : Bool, (∃ es8 : LL, (∃ es9 : LL, (∃ n7 : Int, (∃ es10 : LL, (∃ es11 : LL, (∃ n8 : Int, ((Fn Tryz.prog 24 [(TV.agg [(AV.fz (FV.int .i64 pk)), (AV.fz (FV.str pt)), (AV.fz (FV.bool pn)), (AV.fz (FV.sl 1 pl)), (AV.fz (FV.sl 8 px)), (AV.fz (FV.int .i64 pa)), (AV.fz (FV.sl 1 pm)), (AV.fz (FV.sl 1 pu))])] [] (TV.tup [(true, [(AV.fz (FV.int .i64 n6)), (AV.fz (FV.str s2)), (AV.fz (FV.bool b3)), (AV.fz (FV.sl 1 es8)), (AV.fz (FV.sl 8 es9)), (AV.fz (FV.int .i64 n7)), (AV.fz (FV.sl 1 es10)), (AV.fz (FV.sl 1 es11))]), (false, [(AV.fz (FV.int .i64 n8))])]) []) ∧ (∃ n9 : Int, (∃ s3 : ByteArray, (∃ b4 : Bool, (∃ es12 : LL, (∃ es13 : LL, (∃ n10 : Int, (∃ es14 : LL, (∃ es15 : LL, (∃ n11 : Int, ((Fn Tryz.prog 24 [(TV.agg [(AV.fz (FV.int .i64 qk)), (AV.fz (FV.str qt)), (AV.fz (FV.bool qn)), (AV.fz (FV.sl 1 ql)), (AV.fz (FV.sl 8 qx)), (AV.fz (FV.int .i64 qa)), (AV.fz (FV.sl 1 qm)), (AV.fz (FV.sl 1 qu))])] [] (TV.tup [(true, [(AV.fz (FV.int .i64 n9)), (AV.fz (FV.str s3)), (AV.fz (FV.bool b4)), (AV.fz (FV.sl 1 es12)), (AV.fz (FV.sl 8 es13)), (AV.fz (FV.int .i64 n10)), (AV.fz (FV.sl 1 es14)), (AV.fz (FV.sl 1 es15))]), (false, [(AV.fz (FV.int .i64 n11))])]) []) ∧ ((((n8 == 0) = true) → ((((n11 == 0) = true) → (∃ b5 : Bool, ((Fn Tryz.prog 20 [(TV.agg [(AV.fz (FV.int .i64 n6)), (AV.fz (FV.str s2)), (AV.fz (FV.bool b3)), (AV.fz (FV.sl 1 es8)), (AV.fz (FV.sl 8 es9)), (AV.fz (FV.int .i64 n7)), (AV.fz (FV.sl 1 es10)), (AV.fz (FV.sl 1 es11))]), (TV.agg [(AV.fz (FV.int .i64 n9)), (AV.fz (FV.str s3)), (AV.fz (FV.bool b4)), (AV.fz (FV.sl 1 es12)), (AV.fz (FV.sl 8 es13)), (AV.fz (FV.int .i64 n10)), (AV.fz (FV.sl 1 es14)), (AV.fz (FV.sl 1 es15))])] [] (TV.one (AV.fz (FV.bool b5))) []) ∧ (R (TV.one (AV.fz (FV.bool b5))) [])))) ∧ (((n11 == 0) = false) → (R (TV.one (AV.fz (FV.bool false))) [])))) ∧ (((n8 == 0) = false) → (R (TV.one (AV.fz (FV.bool false))) [])))))))))))))))))))))))
theorem ref09_Same_fn (pk : Int) (pt : ByteArray) (pn : Bool) (pl : LL) (px : LL) (pa : Int) (pm : LL) (pu : LL) (qk : Int) (qt : ByteArray) (qn : Bool) (ql : LL) (qx : LL) (qa : Int) (qm : LL) (qu : LL) {r : TV} {h : List Ob} (H : ref09_Same_H (fun r' h' => r' = r ∧ h' = h) pk pt pn pl px pa pm pu qk qt qn ql qx qa qm qu) : Fn Tryz.prog 29 [(TV.agg [(AV.fz (FV.int .i64 pk)), (AV.fz (FV.str pt)), (AV.fz (FV.bool pn)), (AV.fz (FV.sl 1 pl)), (AV.fz (FV.sl 8 px)), (AV.fz (FV.int .i64 pa)), (AV.fz (FV.sl 1 pm)), (AV.fz (FV.sl 1 pu))]), (TV.agg [(AV.fz (FV.int .i64 qk)), (AV.fz (FV.str qt)), (AV.fz (FV.bool qn)), (AV.fz (FV.sl 1 ql)), (AV.fz (FV.sl 8 qx)), (AV.fz (FV.int .i64 qa)), (AV.fz (FV.sl 1 qm)), (AV.fz (FV.sl 1 qu))])] [] r h :=
 Fn.by_tr (M := (modeOf [] [])) (lv := ref09_Same_lv) (own := none) (F := Tryz.f29) (by kernel_rfl) (by kernel_rfl) (by first | decide | simp) (fun _ _ h => h) (by kernel_rfl) H
end
section
theorem setC_set (es : List (List FV)) (i : Nat) (cells : List FV) (j : Nat) (x : FV) : setC (es.set i cells) i j x = es.set i (cells.set j x) := by
 apply List.ext_getElem?
 intro k
 rw [setC_get]
 by_cases e : k = i
 ·subst e
  rw [if_pos rfl, List.getElem?_set, List.getElem?_set, if_pos rfl, if_pos rfl]
  split <;> rfl
 ·rw [if_neg e, List.getElem?_set, List.getElem?_set, if_neg (fun e' => e e'.symm), if_neg (fun e' => e e'.symm)]
theorem srows_set (xs : List Sx) (i : Nat) (y : Sx) : (Sx.rows xs).set i y.row = Sx.rows (xs.set i y) := by
 apply List.ext_getElem?
 intro k
 rw [List.getElem?_set, srows_get, srows_get, srows_len, List.getElem?_set]
 split
 ·split <;> rfl
 ·rfl
def Sx.list : Sx → List Sx
 | .mk _ _ _ _ xs _ _ _ => xs
abbrev fzO : Sx → TV
 | .mk k t n l _ a m u => .agg [.fz (.int .i64 k), .fz (.str t), .fz (.bool n), .fz (.sl 1 (ints .u32 l)), .ofl 8 0, .fz (.int .i64 a), .fz (.sl 1 (ints .i64 m)), .fz (.sl 1 (ints .i64 u))]
abbrev obX (xs : List Sx) : Ob := .r 1 0 8 (Sx.rows xs) none none
theorem cloneXO_ok (xs : List Sx) (h : xs.length ≤ 1048576) : Fn Tryz.prog 99 [.one (.fz (.sl 8 (Sx.rows xs)))] [] (.one (.ofl 8 0)) [.f 0 8 (Sx.rows xs)] := by
 refine cloneX_fn _ ?_
 unfold cloneX_H
 have hl := srows_len xs
 simp only [ints_len, ints_app, ints_snoc, ints_take, ints_drop, ints_set, ints_rep, ints_one, ex_rd, dec_t, dec_f, beq_t, beq_f, bne_t, bne_f, not_t, not_f, List.length_set, List.length_append, List.length_cons, List.length_nil, List.length_take, List.length_drop, List.length_replicate, Int.toNat_natCast, List.nil_append, Bool.not_true, Bool.not_false, Wk_nil, Wk_cons, wk1_same, wk1_f, and_true, true_and, Bool.false_eq_true, Bool.true_eq_false, false_implies, forall_const]
 repeat' (first | (with_reducible refine And.intro ?_ ?_) | (with_reducible intro _)); all_goals (try rfl)
 ·rename_i h0; rw [h0]
 ·omega
 ·omega
theorem xown_loop (k : Int) (t : ByteArray) (n : Bool) (l : List Int) (a : Int) (m u : List Int) (xs : List Sx) (hl : xs.length ≤ 1048576) (hp : ∀ x ∈ xs, Fn Tryz.prog 61 [fzX x] [] (fzO x) [obX x.list])
  (R : TV → List Ob → Prop) (hR : R (fzO (.mk k t n l xs a m u)) [.r 1 0 8 (Sx.rows xs) (some (Sx.rows xs).length) none]) : ∀ (d j : Nat), j + d = xs.length → stx_ownO_L1 R k t n a xs.length j (ints .u32 l) (ints .i64 m) (ints .i64 u) (Sx.rows xs) j
 | 0, j, hj => by
  refine stx_ownO_l1 ?_
  unfold stx_ownO_R1
  rw [dec_t, dec_f]
  refine ⟨fun h => by omega, fun _ => ?_⟩
  rw [show (Sx.rows xs).length = j by rw [srows_len]; omega] at hR
  exact hR
 | d + 1, j, hj => by
  have hF := hp xs[j] (List.getElem_mem _)
  have hr := srow_at (List.getElem?_eq_getElem (show j < xs.length by omega))
  have ih := xown_loop k t n l a m u xs hl hp R hR d (j + 1) (by omega)
  have hset : (Sx.rows xs).set j (xs[j]).row = Sx.rows xs := by rw [srows_set, List.set_getElem_self]
  generalize xs[j] = y at hF hr hset
  obtain ⟨k', t', n', l', ys, a', m', u'⟩ := y
  unfold fzX at hF
  simp only [Sx.row, Sx.list, List.map_cons, List.map_nil] at hF hr hset
  refine stx_ownO_l1 ?_
  unfold stx_ownO_R1
  have e : IntKind.wrap .i64 ((j : Int) + 1) = ((j + 1 : Nat) : Int) := w64 (by omega) (by omega)
  rw [srows_len, dec_t, dec_f, e, Int.toNat_natCast]
  refine ⟨fun _ => ⟨by omega, .inr ⟨Nat.le_refl _, _, _, _, _, _, _, _, _, hr, _, _, _, _, _, _, _, _, hF, by omega, _, _, _, _, _, _, _, _, hr, .inr ⟨rfl, ?_⟩⟩⟩, fun h => by omega⟩
  rw [setC_set]
  simp only [List.set_cons_succ, List.set_cons_zero]
  rw [hset]
  exact ih
mutual
theorem xown_ok : ∀ (x : Sx), x.ok → Fn Tryz.prog 61 [fzX x] [] (fzO x) [obX x.list]
 | .mk k t n l xs a m u, hok => by
  unfold Sx.ok at hok
  obtain ⟨_, _, _, hl4, hxl, hxs, _, hm, hu⟩ := hok
  have hall := xown_all xs hxs
  unfold fzX
  simp only [Sx.row, Sx.list, List.map_cons, List.map_nil]
  refine stx_ownO_fn _ _ _ _ _ _ _ _ ?_
  unfold stx_ownO_H
  refine ⟨_, clone32_ok l hl4, _, clone64_ok m hm.2, _, clone64_ok u hu.2, _, cloneXO_ok xs hxl, ?_⟩
  refine stx_ownO_l0 ?_
  unfold stx_ownO_R0
  rw [srows_len, dec_t, dec_f]
  refine ⟨fun h => ?_, fun h => ?_⟩
  ·have h0 : 0 < xs.length := by omega
   have hF := hall xs[0] (List.getElem_mem _)
   have hr := srow_at (List.getElem?_eq_getElem h0)
   have hlp := xown_loop k t n l a m u xs hxl hall (fun r' h' => r' = fzO (.mk k t n l xs a m u) ∧ Wk h' [obX xs]) ⟨rfl, wk1_r.2 ⟨rfl, rfl, rfl, rfl, .inr ⟨rfl, rfl⟩⟩, trivial⟩ (xs.length - 1) 1 (by omega)
   have hset : (Sx.rows xs).set 0 (xs[0]).row = Sx.rows xs := by rw [srows_set, List.set_getElem_self]
   generalize xs[0] = y at hF hr hset
   obtain ⟨k', t', n', l', ys, a', m', u'⟩ := y
   unfold fzX at hF
   simp only [Sx.row, Sx.list, List.map_cons, List.map_nil] at hF hr hset
   have e : IntKind.wrap .i64 ((0 : Int) + 1) = ((1 : Nat) : Int) := w64 (by omega) (by omega)
   rw [e, show Int.toNat 0 = 0 from rfl]
   refine ⟨by omega, _, _, _, _, _, _, _, _, hr, _, _, _, _, _, _, _, _, hF, by omega, _, _, _, _, _, _, _, _, hr, .inr ⟨rfl, ?_⟩⟩
   rw [setC_set]
   simp only [List.set_cons_succ, List.set_cons_zero]
   rw [hset]
   exact hlp
  ·have : xs = [] := List.eq_nil_of_length_eq_zero (by omega)
   subst this
   exact ⟨rfl, wk1_fr.2 ⟨rfl, srows_nil, srows_nil⟩, trivial⟩
theorem xown_all : ∀ (xs : List Sx), Sx.oks xs → ∀ x ∈ xs, Fn Tryz.prog 61 [fzX x] [] (fzO x) [obX x.list]
 | [], hok => fun x hx => by cases hx
 | y :: xs, hok => fun x hx => by
  unfold Sx.oks at hok
  have h1 := xown_ok y hok.1
  have h2 := xown_all xs hok.2
  rcases List.mem_cons.1 hx with rfl | hx
  ·exact h1
  ·exact h2 x hx
end
end
section
def Sx.withW : Sx → List Int → List Int → Sx
 | .mk k t n l xs a _ _, m, u => .mk k t n l xs a m u
def Sx.ms : Sx → List Int
 | .mk _ _ _ _ _ _ m _ => m
def Sx.us : Sx → List Int
 | .mk _ _ _ _ _ _ _ u => u
def jn1 (M S : List Int) (y : Sx) : Sx := y.withW (joM M S y.ms y.us) (joS M S y.ms y.us)
def Sx.openV : Sx → Sx
 | .mk k t n l xs a m u => if k = 1 ∨ k = 2 ∨ k = 3 then .mk k t n l (xs.map (jn1 m u)) a [] [] else .mk k t n l xs a m u
theorem openV_t {k : Int} (hk : k = 1 ∨ k = 2 ∨ k = 3) (t : ByteArray) (n : Bool) (l : List Int) (xs : List Sx) (a : Int) (m u : List Int) : Sx.openV (.mk k t n l xs a m u) = .mk k t n l (xs.map (jn1 m u)) a [] [] := by simp only [Sx.openV, if_pos hk]
theorem openV_f {k : Int} (hk : ¬ (k = 1 ∨ k = 2 ∨ k = 3)) (t : ByteArray) (n : Bool) (l : List Int) (xs : List Sx) (a : Int) (m u : List Int) : Sx.openV (.mk k t n l xs a m u) = .mk k t n l xs a m u := by simp only [Sx.openV, if_neg hk]
def mix (j : Nat) (xs zs : List Sx) : List Sx := zs.take j ++ xs.drop j
theorem mix_zero (xs zs : List Sx) : mix 0 xs zs = xs := by simp [mix]
theorem mix_all {xs zs : List Sx} {j : Nat} (h : xs.length = zs.length) (hj : zs.length ≤ j) : mix j xs zs = zs := by
 unfold mix
 rw [List.take_of_length_le hj, List.drop_of_length_le (by omega), List.append_nil]
theorem mix_len {xs zs : List Sx} {j : Nat} (h : xs.length = zs.length) : (mix j xs zs).length = xs.length := by
 unfold mix
 rw [List.length_append, List.length_take, List.length_drop]
 omega
theorem mix_get {xs zs : List Sx} {j : Nat} (h : xs.length = zs.length) (hj : j < xs.length) : (mix j xs zs)[j]? = some xs[j] := by
 unfold mix
 rw [List.getElem?_append_right (by rw [List.length_take]; omega), List.getElem?_drop, List.length_take, show j + (j - min j zs.length) = j by omega, List.getElem?_eq_getElem hj]
theorem mix_set {xs zs : List Sx} {j : Nat} (h : xs.length = zs.length) (hj : j < zs.length) : (mix j xs zs).set j zs[j] = mix (j + 1) xs zs := by
 unfold mix
 have h1 : (zs.take j).length = j := by rw [List.length_take]; omega
 rw [List.set_append, if_neg (by omega), h1, Nat.sub_self, List.drop_eq_getElem_cons (show j < xs.length by omega), List.set_cons_zero, List.take_succ_eq_append_getElem hj, List.append_assoc]
 rfl
theorem cool1 (k : Int) (t : ByteArray) (n : Bool) (l : List Int) (a : Int) (zs : List Sx) : Cool 1 (.agg [.fz (.int .i64 k), .fz (.str t), .fz (.bool n), .fz (.sl 1 (ints .u32 l)), .ofl 8 0, .fz (.int .i64 a), .ofl 1 1, .ofl 1 2]) [obX zs, .f 0 1 [], .f 0 1 []] (fzO (.mk k t n l zs a [] [])) [obX zs] :=
 ⟨rfl, ⟨.inl rfl, trivial⟩, rfl⟩
theorem cool0 (k : Int) (t : ByteArray) (n : Bool) (l : List Int) (a : Int) (m u : List Int) (zs : List Sx) : Cool 1 (fzO (.mk k t n l zs a m u)) [obX zs] (fzO (.mk k t n l zs a m u)) [obX zs] :=
 ⟨rfl, ⟨.inl rfl, trivial⟩, rfl⟩
theorem ofR_ok (x : Sx) : Fn Tryz.prog 59 [fzO x] [obX x.list] (fzW x.ms x.us) [obX x.list] := by
 obtain ⟨k, t, n, l, xs, a, m, u⟩ := x
 refine ofR_fn _ _ _ _ _ _ _ _ ?_
 unfold ofR_H
 exact ⟨rfl, .inl rfl, trivial⟩
theorem withR_ok (x : Sx) (m u : List Int) : Fn Tryz.prog 60 [fzO x, fzW m u] [obX x.list] (fzO (x.withW m u)) [obX x.list] := by
 obtain ⟨k, t, n, l, xs, a, m', u'⟩ := x
 refine withR_fn _ _ _ _ _ _ _ _ _ _ ?_
 unfold withR_H
 exact ⟨rfl, .inl rfl, trivial⟩
theorem opened_loop (k : Int) (t : ByteArray) (n : Bool) (l : List Int) (a : Int) (M S : List Int) (hM : All64 M) (hS : All64 S) (xs : List Sx) (hl : xs.length ≤ 1048576) (hok : Sx.oks xs)
  (R : TV → List Ob → Prop) (hR : R (.agg [.fz (.int .i64 k), .fz (.str t), .fz (.bool n), .fz (.sl 1 (ints .u32 l)), .ofl 8 0, .fz (.int .i64 a), .ofl 1 1, .ofl 1 2]) [obX (xs.map (jn1 M S)), .f 0 1 [], .f 0 1 []]) :
  ∀ (d j : Nat), j + d = xs.length → openedR_L0 R k t n (ints .u32 l) a xs.length j (Sx.rows (mix j xs (xs.map (jn1 M S)))) (ints .i64 M) (ints .i64 S)
 | 0, j, hj => by
  refine openedR_l0 ?_
  unfold openedR_R0
  rw [dec_t, dec_f, mix_all (by simp) (by simp; omega)]
  exact ⟨fun h => by omega, fun _ => hR⟩
 | d + 1, j, hj => by
  have hj1 : j < xs.length := by omega
  have hg := mix_get (zs := xs.map (jn1 M S)) (j := j) (by simp) hj1
  have hs := mix_set (xs := xs) (zs := xs.map (jn1 M S)) (j := j) (by simp) (by simpa using hj1)
  have hyo := soks_mem hok xs[j] (List.getElem_mem _)
  have hr := srow_at hg
  have ih := opened_loop k t n l a M S hM hS xs hl hok R hR d (j + 1) (by omega)
  rw [← hs, ← srows_set, List.getElem_map] at ih
  have hlen : (Sx.rows (mix j xs (xs.map (jn1 M S)))).length = xs.length := by rw [srows_len, mix_len (by simp)]
  generalize mix j xs (xs.map (jn1 M S)) = ms at *
  generalize xs[j] = y at *
  have h1 := ofR_ok y
  have h2 := join_ok M S y.ms y.us hM hS
  have h3 := withR_ok y (joM M S y.ms y.us) (joS M S y.ms y.us)
  obtain ⟨k', t', n', l', ys, a', m', u'⟩ := y
  unfold Sx.ok at hyo
  obtain ⟨_, _, _, _, _, _, _, hm', hu'⟩ := hyo
  have h2 := h2 hm' hu'
  simp only [Sx.row, Sx.list, Sx.ms, Sx.us, Sx.withW, jn1] at h1 h2 h3 hr ih
  refine openedR_l0 ?_
  unfold openedR_R0
  have e : IntKind.wrap .i64 ((j : Int) + 1) = ((j + 1 : Nat) : Int) := w64 (by omega) (by omega)
  rw [hlen, dec_t, dec_f, e, Int.toNat_natCast]
  refine ⟨fun _ => ⟨by omega, _, _, _, _, _, _, _, _, hr, _, _, _, h1, _, _, _, h2, _, _, _, _, _, _, _, _, h3, by omega, rfl, _, _, _, _, _, _, _, _, hr, ?_⟩, fun h => by omega⟩
  rw [setC_set]
  simp only [List.set_cons_succ, List.set_cons_zero]
  exact ih
theorem opened_ok (x : Sx) (hx : x.ok) : Fn Tryz.prog 66 [fzO x] [obX x.list] (fzO x.openV) [obX x.openV.list] := by
 have h1 := compound_ok x
 have h2 := ofR_ok x
 obtain ⟨k, t, n, l, xs, a, m, u⟩ := x
 unfold Sx.ok at hx
 obtain ⟨_, _, _, _, hxl, hxs, _, hm, hu⟩ := hx
 unfold fzX at h1
 simp only [Sx.row, Sx.list, Sx.ms, Sx.us, Sx.kind, List.map_cons, List.map_nil] at h1 h2
 refine openedR_fk 1 _ _ _ _ _ _ _ _ (Nat.le_refl 1) ?_
 unfold openedR_H
 refine ⟨_, h1, ?_⟩
 rw [not_t, not_f]
 refine ⟨fun h => ?_, fun h => ⟨_, _, _, h2, ?_⟩⟩
 ·have hk : ¬ (k = 1 ∨ k = 2 ∨ k = 3) := of_decide_eq_false h
  have e : Sx.openV (.mk k t n l xs a m u) = .mk k t n l xs a m u := by simp only [Sx.openV, if_neg hk]
  rw [e]
  exact cool0 k t n l a m u xs
 ·have hk : k = 1 ∨ k = 2 ∨ k = 3 := of_decide_eq_true h
  have e : Sx.openV (.mk k t n l xs a m u) = .mk k t n l (xs.map (jn1 m u)) a [] [] := by simp only [Sx.openV, if_pos hk]
  rw [e]
  have := opened_loop k t n l a m u hm hu xs hxl hxs (fun r' h' => Cool 1 r' h' (fzO (.mk k t n l (xs.map (jn1 m u)) a [] [])) [obX (xs.map (jn1 m u))]) (cool1 k t n l a _) xs.length 0 (by omega)
  rw [mix_zero] at this
  rw [srows_len]
  exact this
mutual
def Sx.flV : Sx → List Int → List Int → Sx
 | .mk k t n l xs a _ _, M, S => .mk k t n l (if k = 1 ∨ k = 2 ∨ k = 3 then Sx.flJ xs M S else Sx.flO xs) a (if k = 4 then M else []) (if k = 4 then S else [])
def Sx.flJ : List Sx → List Int → List Int → List Sx
 | [], _, _ => []
 | x :: xs, M, S => x.flV (joM M S x.ms x.us) (joS M S x.ms x.us) :: Sx.flJ xs M S
def Sx.flO : List Sx → List Sx
 | [] => []
 | x :: xs => x.flV x.ms x.us :: Sx.flO xs
end
theorem flJ_map (M S : List Int) : ∀ xs : List Sx, Sx.flJ xs M S = (xs.map (jn1 M S)).map fun y => y.flV y.ms y.us
 | [] => by simp [Sx.flJ]
 | x :: xs => by
  simp only [Sx.flJ, List.map_cons, flJ_map M S xs]
  obtain ⟨k, t, n, l, ys, a, m, u⟩ := x
  simp only [jn1, Sx.withW, Sx.ms, Sx.us, Sx.flV]
theorem flO_map : ∀ xs : List Sx, Sx.flO xs = xs.map fun y => y.flV y.ms y.us
 | [] => by simp [Sx.flO]
 | x :: xs => by simp only [Sx.flO, List.map_cons, flO_map xs]
theorem oks_of {xs : List Sx} : (∀ x ∈ xs, x.ok) → Sx.oks xs := by
 induction xs with
 | nil => intro _; simp [Sx.oks]
 | cons x xs ih => intro h; unfold Sx.oks; exact ⟨h x (by simp), ih fun y hy => h y (by simp [hy])⟩
theorem withW_ok {y : Sx} (hy : y.ok) {m u : List Int} (hm : All64 m) (hu : All64 u) : (y.withW m u).ok := by
 obtain ⟨k, t, n, l, ys, a, m', u'⟩ := y
 unfold Sx.withW Sx.ok at *
 obtain ⟨h1, h2, h3, h4, h5, h6, h7, _, _⟩ := hy
 exact ⟨h1, h2, h3, h4, h5, h6, h7, hm, hu⟩
theorem ok_ms {y : Sx} (hy : y.ok) : All64 y.ms ∧ All64 y.us := by
 obtain ⟨k, t, n, l, ys, a, m', u'⟩ := y
 unfold Sx.ok at hy
 obtain ⟨h1, h2, h3, h4, h5, h6, h7, h8, h9⟩ := hy
 exact ⟨h8, h9⟩
theorem jn1_ok {M S : List Int} (hM : All64 M) (hS : All64 S) {y : Sx} (hy : y.ok) : (jn1 M S y).ok := by
 obtain ⟨h1, h2⟩ := ok_ms hy
 obtain ⟨h3, h4⟩ := jo_all hM hS h1 h2
 exact withW_ok hy h3 h4
theorem openV_ok {x : Sx} (hx : x.ok) : x.openV.ok := by
 obtain ⟨k, t, n, l, xs, a, m, u⟩ := x
 by_cases hk : k = 1 ∨ k = 2 ∨ k = 3
 ·rw [openV_t hk]
  unfold Sx.ok at hx ⊢
  obtain ⟨h1, h2, h3, h4, h5, h6, h7, h8, h9⟩ := hx
  exact ⟨h1, h2, h3, h4, by simpa using h5, oks_of fun y hy => by
   obtain ⟨z, hz, rfl⟩ := List.mem_map.1 hy
   exact jn1_ok h8 h9 (soks_mem h6 z hz), h7, all64_nil, all64_nil⟩
 ·rw [openV_f hk]
  exact hx
end
section
abbrev sxeT (x : Sx) (e : Int) : TV := .tup [(true, x.row.map .fz), (false, [.fz (.int .i64 e)])]
theorem zero_ok : Sx.zero.ok := by
 unfold Sx.zero Sx.ok
 refine ⟨⟨by decide, by decide⟩, by decide, Lim.nil _, by simp, by simp, ?_, ⟨by decide, by decide⟩, all64_nil, all64_nil⟩
 unfold Sx.oks; trivial
def Sx.errE (x : Sx) : Int := if x.snd = true then 0 else 2
def Sx.openR (x : Sx) : Sx := if x.snd = true then x.openV else Sx.zero
def Sx.flV1 (x : Sx) : Sx := x.flV x.ms x.us
def Sx.flR (x : Sx) : Sx := if x.snd = true then x.flV1 else Sx.zero
theorem sOpen_ok (x : Sx) (hx : x.ok) : Fn Tryz.prog 21 [fzX x] [] (sxeT x.openR x.errE) [] := by
 have h1 := stxSound_ok x hx
 have h4 := xown_ok x hx
 have h5 := opened_ok x hx
 have g1 : x.snd = false → sxeT x.openR x.errE = sxeT Sx.zero 2 := fun h => by unfold Sx.openR Sx.errE; rw [h]; rfl
 have g2 : x.snd = true → sxeT x.openR x.errE = sxeT x.openV 0 := fun h => by unfold Sx.openR Sx.errE; rw [if_pos h, if_pos h]
 generalize sxeT x.openR x.errE = T at *
 generalize x.snd = b1 at *
 generalize x.openV = y at *
 obtain ⟨k, t, n, l, xs, a, m, u⟩ := x
 obtain ⟨k1, t1, n1, l1, ys, a1, m1, u1⟩ := y
 unfold fzX at *
 simp only [Sx.row, Sx.list, List.map_cons, List.map_nil] at *
 refine stxO_Open_fc _ _ _ _ _ _ _ _ ?_
 unfold stxO_Open_H
 refine ⟨_, h1, ?_⟩
 rw [not_t, not_f]
 refine ⟨fun hb => ?_, fun hb => ⟨_, _, _, _, _, _, _, _, h4, _, _, _, _, _, _, _, _, h5, ?_⟩⟩
 ·rw [g1 hb]; exact ⟨rfl, trivial, rfl⟩
 ·rw [g2 hb]; exact ⟨rfl, trivial, rfl⟩
mutual
def Sx.lean : Sx → Prop
 | .mk k _ _ _ xs _ _ _ => ((k = 1 ∨ k = 2 ∨ k = 3) ∨ xs = []) ∧ Sx.leans xs
def Sx.leans : List Sx → Prop
 | [] => True
 | x :: xs => x.lean ∧ Sx.leans xs
end
mutual
theorem flatS_eq : ∀ (x : Sx) (M S : List Int), x.lean → x.flatS M S = x.flV (joM M S x.ms x.us) (joS M S x.ms x.us)
 | .mk k t n l xs a m u, M, S, h => by
  unfold Sx.lean at h
  have := flatL_eq xs (joM M S m u) (joS M S m u) h.2
  unfold Sx.flatS Sx.flV
  simp only [Sx.ms, Sx.us]
  rw [this]
  rcases h.1 with hk | he
  ·rw [if_pos hk]
  ·subst he; simp only [Sx.flJ, Sx.flO, ite_self]
theorem flatL_eq : ∀ (xs : List Sx) (M S : List Int), Sx.leans xs → Sx.flatL xs M S = Sx.flJ xs M S
 | [], _, _, _ => by simp only [Sx.flatL, Sx.flJ]
 | x :: xs, M, S, h => by
  unfold Sx.leans at h
  simp only [Sx.flatL, Sx.flJ]
  rw [flatS_eq x M S h.1, flatL_eq xs M S h.2]
end
theorem plB_list {t : ByteArray} {n : Bool} {l : List Int} {dn : Nat} {a b : Bool} (h : plB t n l dn a b false = true) : dn = 0 := by
 unfold plB at h
 simp only [Bool.and_eq_true, Bool.false_or, decide_eq_true_eq] at h
 exact h.2.2
theorem leafB_list {k : Int} {t : ByteArray} {n : Bool} {l : List Int} {dn : Nat} (h : leafB k t n l dn = true) : dn = 0 := by
 unfold leafB at h
 split at h
 ·exact plB_list (Bool.and_eq_true_iff.1 h).2
 split at h
 ·exact plB_list (Bool.and_eq_true_iff.1 h).2
 split at h
 ·exact plB_list (Bool.and_eq_true_iff.1 h).2
 split at h
 ·exact plB_list (Bool.and_eq_true_iff.1 h).2
 split at h
 ·exact plB_list h
 split at h
 ·exact plB_list h
 ·cases h
mutual
theorem lean_meas : ∀ (x : Sx) (dp room : Int), 0 < x.dt.meas dp room → x.lean
 | .mk k t n l xs a m u, dp, room, h => by
  unfold Sx.dt Dt.meas at h
  unfold Sx.lean
  split at h
  ·omega
  split at h
  ·rename_i hk
   split at h
   ·have := leans_meas xs (dp + 1) room 1 (by omega) h
    exact ⟨.inl (by omega), this⟩
   ·omega
  ·split at h
   ·rename_i hl
    have h0 := leafB_list hl
    rw [dts_len] at h0
    have : xs = [] := List.eq_nil_of_length_eq_zero h0
    subst this
    exact ⟨.inr rfl, by unfold Sx.leans; trivial⟩
   ·omega
theorem leans_meas : ∀ (xs : List Sx) (dp room n : Int), 0 < n → 0 < Dt.measL (Sx.dts xs) dp room n → Sx.leans xs
 | [], _, _, _, _, _ => by unfold Sx.leans; trivial
 | x :: xs, dp, room, n, h0, h => by
  unfold Sx.dts Dt.measL at h
  unfold Sx.leans
  split at h
  ·omega
  ·rename_i hm
   have hp : 0 < x.dt.meas dp (room - n) := by rcases meas_le x.dt dp (room - n) with h | h <;> omega
   exact ⟨lean_meas x dp (room - n) hp, leans_meas xs dp room _ (by omega) h⟩
end
theorem snd_lean {x : Sx} (h : x.snd = true) : x.lean := by
 unfold Sx.snd at h
 simp only [Bool.and_eq_true] at h
 have h2 := h.2.1
 unfold Dt.snd at h2
 exact lean_meas x 1 8192 (by simpa using h2)
theorem jnE_nil {m u : List Int} (h : jnE [] [] m u = 0) : joM [] [] m u = m ∧ joS [] [] m u = u := by
 unfold joM joS
 rw [if_pos h, if_pos h]
 unfold jnM jnS
 have : ¬ cnP [] [] m u := by unfold cnP; simp
 rw [if_neg this, if_neg this]
 exact ⟨rfl, rfl⟩
theorem snd_jnd {x : Sx} (h : x.snd = true) : x.jnd [] [] = true := by
 unfold Sx.snd at h
 simp only [Bool.and_eq_true] at h
 exact h.2.2.2
theorem jnd_E {x : Sx} {M S : List Int} (h : x.jnd M S = true) : jnE M S x.ms x.us = 0 := by
 obtain ⟨k, t, n, l, xs, a, m, u⟩ := x
 unfold Sx.jnd at h
 simp only [Bool.and_eq_true, decide_eq_true_eq] at h
 exact h.1
theorem flat_snd {x : Sx} (h : x.snd = true) : x.flatS [] [] = x.flV1 := by
 have hj := jnE_nil (jnd_E (snd_jnd h))
 rw [flatS_eq x [] [] (snd_lean h), hj.1, hj.2]
 rfl
theorem rFlat_ok (x : Sx) (hx : x.ok) : Fn Tryz.prog 24 [fzX x] [] (sxeT x.flR x.errE) [] := by
 have h1 := rSound9_ok x hx
 have h4 := rflat_ok x [] [] hx all64_nil all64_nil
 have h5 : x.snd = true → x.flatR [] [] = x.flV1 := fun h => by
  unfold Sx.flatR
  rw [if_pos (snd_jnd h), flat_snd h]
 have g1 : x.snd = false → sxeT x.flR x.errE = sxeT Sx.zero 2 := fun h => by unfold Sx.flR Sx.errE; rw [h]; rfl
 have g2 : x.snd = true → sxeT x.flR x.errE = sxeT x.flV1 0 := fun h => by unfold Sx.flR Sx.errE; rw [if_pos h, if_pos h]
 generalize sxeT x.flR x.errE = T at *
 generalize x.snd = b1 at *
 generalize x.flatR [] [] = z at *
 generalize x.flV1 = y at *
 generalize x.jnd [] [] = b2 at *
 obtain ⟨k, t, n, l, xs, a, m, u⟩ := x
 obtain ⟨k1, t1, n1, l1, ys, a1, m1, u1⟩ := z
 unfold fzX at *
 simp only [Sx.row, Sx.list, List.map_cons, List.map_nil] at h1 h4 ⊢
 refine ref09_Flat_fn _ _ _ _ _ _ _ _ ?_
 unfold ref09_Flat_H
 refine ⟨_, h1, ?_⟩
 rw [not_t, not_f]
 refine ⟨fun hb => ?_, fun hb => ⟨_, _, _, _, _, _, _, _, _, h4, ?_⟩⟩
 ·rw [g1 hb]; exact ⟨rfl, rfl⟩
 ·rw [g2 hb, ← h5 hb]; exact ⟨rfl, rfl⟩
end
section
def slices_Equal_uint32_uint32_lv : List Nat → Keep := lvOf [([0, 1, 0, 1, 1], ⟨12291, 0, [], false, false⟩)]
def slices_Equal_uint32_uint32_S0 (s1 : LL) (s2 : LL) (i : Int) : St := (St.mk [(TV.one (AV.fz (FV.sl 1 s1))), (TV.one (AV.fz (FV.sl 1 s2))), TV.und, TV.und, TV.und, TV.und, TV.und, TV.und, TV.und, TV.und, TV.und, TV.und, (TV.one (AV.fz (FV.int .i64 (((List.length s1) : Nat) : Int)))), (TV.one (AV.fz (FV.int .i64 i))), TV.und, TV.und, TV.und, TV.und, TV.und, TV.und, TV.und, TV.und, TV.und, TV.und, TV.und, TV.und] [])
def slices_Equal_uint32_uint32_L0 (R : TV → List Ob → Prop) (s1 : LL) (s2 : LL) (i : Int) : Prop := LoopAt Tryz.prog (modeOf [] []) slices_Equal_uint32_uint32_lv Tryz.f104 none R [1, 1, 0, 1, 0] (slices_Equal_uint32_uint32_S0 s1 s2 i)
def slices_Equal_uint32_uint32_R0 (R : TV → List Ob → Prop) (s1 : List (List FV)) (s2 : List (List FV)) (i : Int) : Prop :=
 ((((decide (i < (((List.length s1) : Nat) : Int))) = true) → (((0 : Int) ≤ i) ∧ (∃ n4 : Int, (((s1)[(Int.toNat i)]? = (some [(FV.int .u32 n4)])) ∧ (((0 : Int) ≤ i) ∧ (∃ n5 : Int, (((s2)[(Int.toNat i)]? = (some [(FV.int .u32 n5)])) ∧ ((((n4 != n5) = true) → (R (TV.one (AV.fz (FV.bool false))) [])) ∧ (((n4 != n5) = false) → (slices_Equal_uint32_uint32_L0 R s1 s2 (IntKind.wrap .i64 (i + 1)))))))))))) ∧ (((decide (i < (((List.length s1) : Nat) : Int))) = false) → (R (TV.one (AV.fz (FV.bool true))) [])))
theorem slices_Equal_uint32_uint32_l0 {R : TV → List Ob → Prop} {s1 : LL} {s2 : LL} {i : Int} (h : slices_Equal_uint32_uint32_R0 R s1 s2 i) : slices_Equal_uint32_uint32_L0 R s1 s2 i :=
 LoopAt.by_tr (by kernel_rfl) (by kernel_rfl) h
def slices_Equal_uint32_uint32_H (R : TV → List Ob → Prop) (s1 : List (List FV)) (s2 : List (List FV)) : Prop :=
 (((((((List.length s1) : Nat) : Int) != (((List.length s2) : Nat) : Int)) = true) → (R (TV.one (AV.fz (FV.bool false))) [])) ∧ ((((((List.length s1) : Nat) : Int) != (((List.length s2) : Nat) : Int)) = false) → (slices_Equal_uint32_uint32_L0 R s1 s2 0)))
theorem slices_Equal_uint32_uint32_fn (s1 : LL) (s2 : LL) {r : TV} {h : List Ob} (H : slices_Equal_uint32_uint32_H (fun r' h' => r' = r ∧ h' = h) s1 s2) : Fn Tryz.prog 104 [(TV.one (AV.fz (FV.sl 1 s1))), (TV.one (AV.fz (FV.sl 1 s2)))] [] r h :=
 Fn.by_tr (M := (modeOf [] [])) (lv := slices_Equal_uint32_uint32_lv) (own := none) (F := Tryz.f104) (by kernel_rfl) (by kernel_rfl) (by first | decide | simp) (fun _ _ h => h) (by kernel_rfl) H
end
section
theorem rd_ints (k : IntKind) {l : List Int} {i : Nat} (h : i < l.length) : (ints k l)[i]? = some [.int k (rd l i)] := by simp [ints, rd_at l i h, h]
theorem eqI_loop (a b : List Int) (ha : a.length * 8 ≤ 140737488355328) (hlen : a.length = b.length) (R : TV → List Ob → Prop) (hR : R (fzB (decide (a = b))) []) : ∀ (d i : Nat), i + d = a.length → a.take i = b.take i → slices_Equal_int_int_L0 R (ints .i64 a) (ints .i64 b) i
 | 0, i, hi, h => by
  rw [List.take_of_length_le (by omega), List.take_of_length_le (by omega)] at h
  refine slices_Equal_int_int_l0 ?_
  unfold slices_Equal_int_int_R0
  rw [ints_len, dec_t, dec_f]
  exact ⟨fun h => by omega, fun _ => by simpa [h] using hR⟩
 | d + 1, i, hi, h => by
  refine slices_Equal_int_int_l0 ?_
  unfold slices_Equal_int_int_R0
  have e3 : IntKind.wrap .i64 ((i : Int) + 1) = ((i + 1 : Nat) : Int) := w64 (by omega) (by omega)
  rw [ints_len, dec_t, dec_f, e3]
  refine ⟨fun _ => ⟨by omega, _, rd_ints .i64 (l := a) (i := i) (by omega), by omega, _, rd_ints .i64 (l := b) (i := i) (by omega), ?_⟩, fun h => by omega⟩
  rw [bne_t, bne_f]
  refine ⟨fun hne => ?_, fun he => ?_⟩
  ·have : ¬ a = b := fun e => hne (by rw [e])
   simpa [this] using hR
  ·refine eqI_loop a b ha hlen R hR d (i + 1) (by omega) ?_
   rw [rd_at a i (by omega), rd_at b i (by omega)] at he
   rw [List.take_succ_eq_append_getElem (by omega), List.take_succ_eq_append_getElem (by omega), h, he]
theorem eqI_ok (a b : List Int) (ha : a.length * 8 ≤ 140737488355328) : Fn Tryz.prog 81 [fzS .i64 a, fzS .i64 b] [] (fzB (decide (a = b))) [] := by
 refine slices_Equal_int_int_fn _ _ ?_
 unfold slices_Equal_int_int_H
 rw [ints_len, ints_len, bne_t, bne_f]
 refine ⟨fun h2 => ?_, fun h2 => ?_⟩
 ·have : ¬ a = b := fun e => h2 (by rw [e])
  rw [decide_eq_false this]
  exact ⟨rfl, rfl⟩
 ·exact eqI_loop a b ha (by omega) _ ⟨rfl, rfl⟩ a.length 0 (by omega) (by simp)
theorem eqU_loop (a b : List Int) (ha : a.length * 4 ≤ 140737488355328) (hlen : a.length = b.length) (R : TV → List Ob → Prop) (hR : R (fzB (decide (a = b))) []) : ∀ (d i : Nat), i + d = a.length → a.take i = b.take i → slices_Equal_uint32_uint32_L0 R (ints .u32 a) (ints .u32 b) i
 | 0, i, hi, h => by
  rw [List.take_of_length_le (by omega), List.take_of_length_le (by omega)] at h
  refine slices_Equal_uint32_uint32_l0 ?_
  unfold slices_Equal_uint32_uint32_R0
  rw [ints_len, dec_t, dec_f]
  exact ⟨fun h => by omega, fun _ => by simpa [h] using hR⟩
 | d + 1, i, hi, h => by
  refine slices_Equal_uint32_uint32_l0 ?_
  unfold slices_Equal_uint32_uint32_R0
  have e3 : IntKind.wrap .i64 ((i : Int) + 1) = ((i + 1 : Nat) : Int) := w64 (by omega) (by omega)
  rw [ints_len, dec_t, dec_f, e3]
  refine ⟨fun _ => ⟨by omega, _, rd_ints .u32 (l := a) (i := i) (by omega), by omega, _, rd_ints .u32 (l := b) (i := i) (by omega), ?_⟩, fun h => by omega⟩
  rw [bne_t, bne_f]
  refine ⟨fun hne => ?_, fun he => ?_⟩
  ·have : ¬ a = b := fun e => hne (by rw [e])
   simpa [this] using hR
  ·refine eqU_loop a b ha hlen R hR d (i + 1) (by omega) ?_
   rw [rd_at a i (by omega), rd_at b i (by omega)] at he
   rw [List.take_succ_eq_append_getElem (by omega), List.take_succ_eq_append_getElem (by omega), h, he]
theorem eqU_ok (a b : List Int) (ha : a.length * 4 ≤ 140737488355328) : Fn Tryz.prog 104 [fzS .u32 a, fzS .u32 b] [] (fzB (decide (a = b))) [] := by
 refine slices_Equal_uint32_uint32_fn _ _ ?_
 unfold slices_Equal_uint32_uint32_H
 rw [ints_len, ints_len, bne_t, bne_f]
 refine ⟨fun h2 => ?_, fun h2 => ?_⟩
 ·have : ¬ a = b := fun e => h2 (by rw [e])
  rw [decide_eq_false this]
  exact ⟨rfl, rfl⟩
 ·exact eqU_loop a b ha (by omega) _ ⟨rfl, rfl⟩ a.length 0 (by omega) (by simp)
theorem wSame_ok (m u m' u' : List Int) (hm : All64 m) (hu : All64 u) : Fn Tryz.prog 103 [fzW m u, fzW m' u'] [] (fzB (decide (m = m') && decide (u = u'))) [] := by
 obtain ⟨R, hR, hRe⟩ := exR (fzB (decide (m = m') && decide (u = u')))
 refine wrap_Same_fn _ _ _ _ ?_
 rw [hRe]
 clear hRe
 unfold wrap_Same_H
 refine ⟨_, eqI_ok m m' hm.2, fun h => ⟨_, eqI_ok u u' hu.2, ?_⟩, fun h => ?_⟩
 ·rw [h, Bool.true_and] at hR; exact hR
 ·rw [h, Bool.false_and] at hR; exact hR
theorem eqAlike_loop (xs ys : List Sx) (hl : xs.length ≤ 1048576) (hxy : xs.length = ys.length)
  (hp : ∀ x ∈ xs, ∀ y, Fn Tryz.prog 73 [fzX x, fzX y] [] (fzB (x.exact y)) [])
  (R : TV → List Ob → Prop) (hR : R (fzB (Sx.exactL xs ys)) []) : ∀ (d j : Nat), j + d = xs.length → Sx.exactL xs ys = Sx.exactL (xs.drop j) (ys.drop j) →
   eqAlike_L0 R (Sx.rows xs) (Sx.rows ys) j
 | 0, j, hj, h => by
  refine eqAlike_l0 ?_
  unfold eqAlike_R0
  rw [srows_len, dec_t, dec_f]
  refine ⟨fun h => by omega, fun _ => ?_⟩
  rw [h, List.drop_of_length_le (by omega)] at hR
  simpa only [Sx.exactL] using hR
 | d + 1, j, hj, h => by
  have hF := hp xs[j] (List.getElem_mem _) (ys[j]'(by omega))
  have hr := srow_at (List.getElem?_eq_getElem (show j < xs.length by omega))
  have hr2 := srow_at (List.getElem?_eq_getElem (show j < ys.length by omega))
  have hd : xs.drop j = xs[j] :: xs.drop (j + 1) := List.drop_eq_getElem_cons (by omega)
  have hd2 : ys.drop j = ys[j]'(by omega) :: ys.drop (j + 1) := List.drop_eq_getElem_cons (by omega)
  rw [hd, hd2, exactL_cons] at h
  generalize xs[j] = y at hF hr h
  generalize ys[j]'(by omega) = z at hF hr2 h
  obtain ⟨k1, t1, n1, l1, ys1, a1, m1, u1⟩ := y
  obtain ⟨k2, t2, n2, l2, ys2, a2, m2, u2⟩ := z
  unfold fzX at hF
  simp only [Sx.row, List.map_cons, List.map_nil] at hF hr hr2
  refine eqAlike_l0 ?_
  unfold eqAlike_R0
  have e : IntKind.wrap .i64 ((j : Int) + 1) = ((j + 1 : Nat) : Int) := w64 (by omega) (by omega)
  rw [srows_len, dec_t, dec_f, e]
  refine ⟨fun _ => ⟨by omega, _, _, _, _, _, _, _, _, hr, by omega, _, _, _, _, _, _, _, _, hr2, _, hF, ?_⟩, fun h => by omega⟩
  rw [not_t, not_f]
  refine ⟨fun h1 => ?_, fun h1 => ?_⟩
  ·rw [h, h1, Bool.false_and] at hR; exact hR
  ·exact eqAlike_loop xs ys hl hxy hp R hR d (j + 1) (by omega) (by rw [h, h1, Bool.true_and])
theorem eqAlike_ok (xs ys : List Sx) (hl : xs.length ≤ 1048576) (hp : ∀ x ∈ xs, ∀ y, Fn Tryz.prog 73 [fzX x, fzX y] [] (fzB (x.exact y)) []) :
  Fn Tryz.prog 105 [.one (.fz (.sl 8 (Sx.rows xs))), .one (.fz (.sl 8 (Sx.rows ys))), .one (.fz (.fn 73 []))] [] (fzB (decide (xs.length = ys.length) && Sx.exactL xs ys)) [] := by
 obtain ⟨R, hR, hRe⟩ := exR (fzB (decide (xs.length = ys.length) && Sx.exactL xs ys))
 refine eqAlike_fn _ _ ?_
 rw [hRe]
 clear hRe
 unfold eqAlike_H
 rw [srows_len, srows_len, bne_t, bne_f]
 refine ⟨fun h => ?_, fun h => ?_⟩
 ·rw [decide_eq_false (by omega), Bool.false_and] at hR; exact hR
 ·rw [decide_eq_true (by omega), Bool.true_and] at hR
  exact eqAlike_loop xs ys hl (by omega) hp R hR xs.length 0 (by omega) rfl
mutual
theorem alike_ok : ∀ (x y : Sx), x.ok → Fn Tryz.prog 73 [fzX x, fzX y] [] (fzB (x.exact y)) []
 | .mk k t n l xs a m u, .mk k' t' n' l' ys a' m' u', hok => by
  unfold Sx.ok at hok
  obtain ⟨_, _, _, hl4, hxl, hxs, _, hm, hu⟩ := hok
  have hall := alike_all xs hxs
  have hEq := eqAlike_ok xs ys hxl hall
  obtain ⟨R, hR, hRe⟩ := exR (fzB ((Sx.mk k t n l xs a m u).exact (.mk k' t' n' l' ys a' m' u')))
  unfold fzX
  simp only [Sx.row, List.map_cons, List.map_nil]
  refine stx_alike_fn _ _ _ _ _ _ _ _ _ _ _ _ _ _ _ _ ?_
  rw [hRe]
  clear hRe
  unfold stx_alike_H
  unfold Sx.exact at hR
  have no : (decide (k = k') && (decide (t = t') && (decide (n = n' ∧ l = l') && (decide (m = m') && (decide (u = u') && (decide (xs.length = ys.length) && Sx.exactL xs ys)))))) = false → R (fzB false) [] := fun h => by rw [h] at hR; exact hR
  rw [str_eq, beq_t, beq_f]
  refine ⟨_, _, of_ok' k t n l xs a m u, _, _, of_ok' k' t' n' l' ys a' m' u', _, wSame_ok m u m' u' hm hu, fun h1 => ⟨fun h2 => ⟨fun h3 => ⟨fun h4 => ⟨_, eqU_ok l l' hl4, fun h5 => ⟨_, hEq, ?_⟩, fun h5 => no ?_⟩, fun h4 => no ?_⟩, fun h3 => no ?_⟩, fun h2 => no ?_⟩, fun h1 => no ?_⟩
  ·have h4' : n = n' := by simpa using h4
   have h5' : l = l' := of_decide_eq_true h5
   rw [Bool.and_eq_true] at h1
   rw [decide_eq_true h2, h3, decide_eq_true (show n = n' ∧ l = l' from ⟨h4', h5'⟩), h1.1, h1.2] at hR
   exact hR
  ·have h5' : ¬ l = l' := of_decide_eq_false h5
   rw [decide_eq_false (show ¬ (n = n' ∧ l = l') from fun h => h5' h.2)]
   simp
  ·have h4' : ¬ n = n' := by simpa using h4
   rw [decide_eq_false (show ¬ (n = n' ∧ l = l') from fun h => h4' h.1)]
   simp
  ·rw [h3]; simp
  ·rw [decide_eq_false h2]; simp
  ·rcases Bool.and_eq_false_iff.1 h1 with h | h <;> rw [h] <;> simp
theorem alike_all : ∀ (xs : List Sx), Sx.oks xs → ∀ x ∈ xs, ∀ y, Fn Tryz.prog 73 [fzX x, fzX y] [] (fzB (x.exact y)) []
 | [], hok => fun x hx => by cases hx
 | z :: xs, hok => fun x hx y => by
  unfold Sx.oks at hok
  have h1 := alike_ok z y hok.1
  have h2 := alike_all xs hok.2
  rcases List.mem_cons.1 hx with rfl | hx
  ·exact h1
  ·exact h2 x hx y
end
def sameB (x y : Sx) : Bool := x.snd && (y.snd && x.flV1.exact y.flV1)
mutual
theorem flV_ok : ∀ (x : Sx) (M S : List Int), x.ok → All64 M → All64 S → (x.flV M S).ok
 | .mk k t n l xs a m u, M, S, hx, hM, hS => by
  unfold Sx.ok at hx
  obtain ⟨h1, h2, h3, h4, h5, h6, h7, h8, h9⟩ := hx
  have q := flJ_ok xs h6
  unfold Sx.flV Sx.ok
  refine ⟨h1, h2, h3, h4, ?_, ?_, h7, ?_, ?_⟩
  ·split
   ·rw [flJ_map, List.length_map, List.length_map]; exact h5
   ·rw [flO_map, List.length_map]; exact h5
  ·split
   ·exact q.1 M S hM hS
   ·exact q.2
  ·split
   ·exact hM
   ·exact all64_nil
  ·split
   ·exact hS
   ·exact all64_nil
theorem flJ_ok : ∀ (xs : List Sx), Sx.oks xs → (∀ M S, All64 M → All64 S → Sx.oks (Sx.flJ xs M S)) ∧ Sx.oks (Sx.flO xs)
 | [], _ => by simp only [Sx.flJ, Sx.flO, Sx.oks]; exact ⟨fun _ _ _ _ => trivial, trivial⟩
 | x :: xs, h => by
  unfold Sx.oks at h
  have q := flJ_ok xs h.2
  have r := ok_ms h.1
  simp only [Sx.flJ, Sx.flO, Sx.oks]
  exact ⟨fun M S hM hS => ⟨flV_ok x _ _ h.1 (jo_all hM hS r.1 r.2).1 (jo_all hM hS r.1 r.2).2, q.1 M S hM hS⟩, flV_ok x _ _ h.1 r.1 r.2, q.2⟩
end
theorem flR_ok {x : Sx} (hx : x.ok) : x.flR.ok := by
 unfold Sx.flR
 split
 ·exact flV_ok x _ _ hx (ok_ms hx).1 (ok_ms hx).2
 ·exact zero_ok
theorem rSame9_ok (x y : Sx) (hx : x.ok) (hy : y.ok) : Fn Tryz.prog 29 [fzX x, fzX y] [] (fzB (sameB x y)) [] := by
 have h1 := rFlat_ok x hx
 have h2 := rFlat_ok y hy
 have h3 := rExact_ok x.flR y.flR (flR_ok hx)
 obtain ⟨R, hR, hRe⟩ := exR (fzB (sameB x y))
 have e1 : x.errE = 0 → x.snd = true := fun h => by unfold Sx.errE at h; split at h; assumption; omega
 have e2 : y.errE = 0 → y.snd = true := fun h => by unfold Sx.errE at h; split at h; assumption; omega
 have e3 : ¬ x.errE = 0 → x.snd = false := fun h => by unfold Sx.errE at h; split at h; omega; simp_all
 have e4 : ¬ y.errE = 0 → y.snd = false := fun h => by unfold Sx.errE at h; split at h; omega; simp_all
 have e5 : x.snd = true → x.flR = x.flV1 := fun h => by unfold Sx.flR; rw [if_pos h]
 have e6 : y.snd = true → y.flR = y.flV1 := fun h => by unfold Sx.flR; rw [if_pos h]
 unfold sameB at hR hRe ⊢
 generalize x.errE = ex at *
 generalize y.errE = ey at *
 generalize x.snd = b1 at *
 generalize y.snd = b2 at *
 generalize x.flV1 = vx at *
 generalize y.flV1 = vy at *
 have hc : b1 = true → b2 = true → x.flR.exact y.flR = vx.exact vy := fun h h' => by rw [e5 h, e6 h']
 clear e5 e6
 generalize x.flR.exact y.flR = bb at *
 generalize x.flR = fx at *
 generalize y.flR = fy at *
 obtain ⟨k, t, n, l, xs, a, m, u⟩ := x
 obtain ⟨k', t', n', l', ys, a', m', u'⟩ := y
 obtain ⟨k1, t1, n1, l1, xs1, a1, m1, u1⟩ := fx
 obtain ⟨k2, t2, n2, l2, xs2, a2, m2, u2⟩ := fy
 unfold fzX at *
 simp only [Sx.row, List.map_cons, List.map_nil] at h1 h2 h3 ⊢
 refine ref09_Same_fn _ _ _ _ _ _ _ _ _ _ _ _ _ _ _ _ ?_
 rw [hRe]
 clear hRe
 unfold ref09_Same_H
 simp only [beq_t, beq_f]
 refine ⟨_, _, _, _, _, _, _, _, _, h1, _, _, _, _, _, _, _, _, _, h2, fun he => ⟨fun hf => ⟨_, h3, ?_⟩, fun hf => ?_⟩, fun he => ?_⟩
 ·rw [e1 he, e2 hf, Bool.true_and, Bool.true_and, ← hc (e1 he) (e2 hf)] at hR; exact hR
 ·rw [e4 hf, Bool.false_and, Bool.and_false] at hR; exact hR
 ·rw [e3 he, Bool.false_and] at hR; exact hR
end
section
theorem jo_snd {m s n t : List Int} (h : jnE m s n t = 0) : wrSnd (joM m s n t) (joS m s n t) = true := by
 unfold joM joS
 rw [if_pos h, if_pos h]
 unfold jnE at h
 split at h
 ·split at h
  ·rename_i hl
   split at h
   ·rename_i hw
    unfold wrSnd
    rw [hw, decide_eq_true hl.1, decide_eq_true hl.2]; rfl
   ·omega
  ·omega
 ·omega
theorem wrSnd_nil : wrSnd [] [] = true := by decide
theorem nil_jn (m u : List Int) : jnM [] [] m u = m ∧ jnS [] [] m u = u := by
 unfold jnM jnS
 have : ¬ cnP [] [] m u := by unfold cnP; simp
 rw [if_neg this, if_neg this]
 exact ⟨rfl, rfl⟩
theorem nil_jnE {m u : List Int} (h : wrSnd m u = true) : jnE [] [] m u = 0 := by
 unfold jnE
 rw [wrSnd_nil, h, (nil_jn m u).1, (nil_jn m u).2]
 unfold wrSnd at h
 simp only [Bool.and_eq_true, decide_eq_true_eq] at h
 rw [if_pos (show (true && true) = true from rfl), if_pos ⟨h.1, h.2.1⟩, if_pos h.2.2]
theorem nil_jo (m s n t : List Int) : joM [] [] (joM m s n t) (joS m s n t) = joM m s n t ∧ joS [] [] (joM m s n t) (joS m s n t) = joS m s n t := by
 by_cases h : jnE m s n t = 0
 ·exact jnE_nil (nil_jnE (jo_snd h))
 ·have h1 : joM m s n t = [] := by unfold joM; rw [if_neg h]
  have h2 : joS m s n t = [] := by unfold joS; rw [if_neg h]
  rw [h1, h2]
  exact jnE_nil (nil_jnE wrSnd_nil)
theorem flatS_with {y : Sx} {J K M S M' S' : List Int} (h1 : joM M S J K = joM M' S' y.ms y.us) (h2 : joS M S J K = joS M' S' y.ms y.us) : (y.withW J K).flatS M S = y.flatS M' S' := by
 obtain ⟨k, t, n, l, xs, a, m, u⟩ := y
 unfold Sx.withW Sx.flatS
 simp only [Sx.ms, Sx.us] at h1 h2
 rw [h1, h2]
theorem jnd_with {y : Sx} {J K M S M' S' : List Int} (h1 : joM M S J K = joM M' S' y.ms y.us) (h2 : joS M S J K = joS M' S' y.ms y.us) (h3 : jnE M S J K = 0) (h : y.jnd M' S' = true) : (y.withW J K).jnd M S = true := by
 obtain ⟨k, t, n, l, xs, a, m, u⟩ := y
 unfold Sx.withW Sx.jnd
 unfold Sx.jnd at h
 simp only [Sx.ms, Sx.us] at h1 h2
 rw [h1, h2, h3]
 rw [Bool.and_eq_true] at h
 rw [h.2]; rfl
theorem withW_dt (y : Sx) (J K : List Int) : (y.withW J K).dt = y.dt := by
 obtain ⟨k, t, n, l, xs, a, m, u⟩ := y
 simp only [Sx.withW, Sx.dt]
theorem withW_shal (y : Sx) (J K : List Int) (r : Int) : (y.withW J K).shal r = y.shal r := by
 obtain ⟨k, t, n, l, xs, a, m, u⟩ := y
 simp only [Sx.withW, Sx.shal]
theorem map_dts (f : Sx → Sx) (hf : ∀ y, (f y).dt = y.dt) : ∀ xs : List Sx, Sx.dts (xs.map f) = Sx.dts xs
 | [] => rfl
 | x :: xs => by simp only [List.map_cons, Sx.dts, hf, map_dts f hf xs]
theorem map_shal (f : Sx → Sx) (hf : ∀ y r, (f y).shal r = y.shal r) : ∀ (xs : List Sx) (r : Int), Sx.shalL (xs.map f) r = Sx.shalL xs r
 | [], r => rfl
 | x :: xs, r => by simp only [List.map_cons, Sx.shalL, hf, map_shal f hf xs r]
theorem openV_dt (x : Sx) : x.openV.dt = x.dt := by
 obtain ⟨k, t, n, l, xs, a, m, u⟩ := x
 by_cases hk : k = 1 ∨ k = 2 ∨ k = 3
 ·rw [openV_t hk]; simp only [Sx.dt]; rw [map_dts (jn1 m u) fun y => withW_dt y _ _]
 ·rw [openV_f hk]
theorem openV_shal (x : Sx) (r : Int) : x.openV.shal r = x.shal r := by
 obtain ⟨k, t, n, l, xs, a, m, u⟩ := x
 by_cases hk : k = 1 ∨ k = 2 ∨ k = 3
 ·rw [openV_t hk]; simp only [Sx.shal]; rw [map_shal (jn1 m u) fun y r => withW_shal y _ _ r]
 ·rw [openV_f hk]
theorem jnd_L {M S : List Int} : ∀ {xs : List Sx}, Sx.jndL xs M S = true → ∀ y ∈ xs, y.jnd M S = true
 | [], _ => fun y hy => by cases hy
 | x :: xs, h => fun y hy => by
  simp only [Sx.jndL, Bool.and_eq_true] at h
  rcases List.mem_cons.1 hy with rfl | hy
  ·exact h.1
  ·exact jnd_L h.2 y hy
theorem jnd_map (f : Sx → Sx) (M S M' S' : List Int) : ∀ {xs : List Sx}, (∀ y ∈ xs, y.jnd M' S' = true → (f y).jnd M S = true) → Sx.jndL xs M' S' = true → Sx.jndL (xs.map f) M S = true
 | [], _, _ => rfl
 | x :: xs, hf, h => by
  simp only [Sx.jndL, Bool.and_eq_true, List.map_cons] at h ⊢
  exact ⟨hf x (by simp) h.1, jnd_map f M S M' S' (fun y hy => hf y (by simp [hy])) h.2⟩
theorem flat_map (f : Sx → Sx) (M S M' S' : List Int) (hf : ∀ y, (f y).flatS M S = y.flatS M' S') : ∀ xs : List Sx, Sx.flatL (xs.map f) M S = Sx.flatL xs M' S'
 | [] => rfl
 | x :: xs => by simp only [Sx.flatL, List.map_cons, hf, flat_map f M S M' S' hf xs]
theorem nils : joM [] [] [] [] = [] ∧ joS [] [] [] [] = [] := jnE_nil (nil_jnE wrSnd_nil)
theorem openV_flat {x : Sx} (h : x.jnd [] [] = true) : x.openV.flatS [] [] = x.flatS [] [] ∧ x.openV.jnd [] [] = true := by
 have hE := jnd_E h
 have hN := jnE_nil hE
 obtain ⟨k, t, n, l, xs, a, m, u⟩ := x
 simp only [Sx.ms, Sx.us] at hE hN
 by_cases hk : k = 1 ∨ k = 2 ∨ k = 3
 ·rw [openV_t hk]
  unfold Sx.jnd at h
  rw [hN.1, hN.2, Bool.and_eq_true] at h
  have h4 : ¬ k = 4 := by omega
  constructor
  ·unfold Sx.flatS
   rw [nils.1, nils.2, hN.1, hN.2, if_neg h4, if_neg h4, if_neg h4]
   rw [flat_map (jn1 m u) [] [] m u fun y => flatS_with (nil_jo m u y.ms y.us).1 (nil_jo m u y.ms y.us).2]
  ·unfold Sx.jnd
   rw [nils.1, nils.2, nil_jnE wrSnd_nil, Bool.and_eq_true]
   refine ⟨rfl, jnd_map (jn1 m u) [] [] m u (fun y hy hj => ?_) h.2⟩
   exact jnd_with (nil_jo m u y.ms y.us).1 (nil_jo m u y.ms y.us).2 (nil_jnE (jo_snd (jnd_E hj))) hj
 ·rw [openV_f hk]; exact ⟨rfl, h⟩
theorem snd_of {x y : Sx} (h : x.snd = true) (h1 : y.dt = x.dt) (h2 : y.shal 64 = x.shal 64) (h3 : y.jnd [] [] = true) : y.snd = true := by
 have h4 := snd_jnd h
 unfold Sx.snd at h ⊢
 rw [h4] at h
 rw [h1, h2, h3]
 exact h
theorem openV_snd {x : Sx} (h : x.snd = true) : x.openV.snd = true := snd_of h (openV_dt x) (openV_shal x 64) (openV_flat (snd_jnd h)).2
end
section
variable {P : Program} {ext : Nat → Prop} {w0 : World} {own0 : Own0} {locs : Locs} {h : List Ob} {w : World}
theorem RepH.topR (H : RepH P ext w0 own0 locs h w) {o s et sz : Nat} {es : List (List FV)} {n : Option Nat} (ho : h[o]? = some (.r s et sz es n none)) :
  ∃ L : Locs, (∀ k, L k = locs k) ∧ RepH P ext w0 own0 L (h.set o (.f et sz es)) w ∧ Later w (Bar ext locs h) w (Bar ext L (h.set o (.f et sz es))) := by
 have hg := fun k => set_get (ob := .f et sz es) ho k
 let L : Locs := ⟨fun k => locs k, fun k y => k ≠ o ∧ locs.own k y⟩
 have hLk : ∀ k, L k = locs k := fun k => rfl
 have hOn : ∀ k, k ≠ o → L.own k = locs.own k := fun k e => funext fun y => propext ⟨fun h => h.2, fun h => ⟨e, h⟩⟩
 have hhs : ∀ k l d, L.hs k l d → locs.hs k l d := fun k l d hd => hd.imp id (fun h => h.2)
 have hsub : ∀ b, ownB L (h.set o (.f et sz es)) b → ownB locs h b := by
  rintro b ⟨k, l', d', ob', h1, h2, h3, h4, rfl⟩
  rw [hg] at h1
  by_cases e : k = o
  ·rw [if_pos e] at h1; cases h1
   exact ⟨k, l', d', _, by rw [e]; exact ho, rfl, h3, hhs _ _ _ h4, rfl⟩
  ·rw [if_neg e] at h1; exact ⟨k, l', d', ob', h1, h2, h3, hhs _ _ _ h4, rfl⟩
 refine ⟨L, hLk, H.step (locs' := L) (fun k => k = o) (fun _ => False) (fun b hb _ => rfl) (Nat.le_refl _) rfl rfl rfl (fun _ _ hd => hd.elim) (fun _ _ hx => hx) (fun k hk => H.len k (by simpa using hk))
  (fun k ob' hne hk => ?_) (fun k b hb => H.ownlt k b hb.2) (fun _ _ _ _ _ _ _ _ _ hd => hd) (fun b hb hb' => hsub b hb') (fun k k' l1 l2 ob1 ob2 d1 d2 hc hne hk hk' hlv1 hlv2 hl1 hl2 hd1 hd2 => ?_) (fun lt k ob' hc hk => ?_)⟩
 ·rw [hg, if_neg hne] at hk
  exact ⟨hk, rfl, hOn k hne⟩
 ·subst hc
  rw [hg, if_neg (fun e => hne e.symm)] at hk'
  exact H.apart k k' l1 l2 _ ob2 d1 d2 hne ho hk' rfl hlv2 hl1 hl2 (hhs _ _ _ hd1) (hhs _ _ _ hd2)
 ·subst hc
  rw [hg, if_pos rfl] at hk
  cases hk
  rcases H.ob k _ ho with h1 | ⟨h1, _⟩ | ⟨l, h1, h2, h3, h4⟩
  ·cases h1
  ·cases h1
  ·refine .inr (.inr ⟨l, h1, h2, h3, ?_⟩)
   rcases h4 with h4 | ⟨b, off, c, ty, SS, h5, h6, het, h7, h8, hp, h9⟩
   ·exact .inl h4
   ·have hno : ∀ y, locs.own k y → y ≠ b → ¬ Bar ext L (h.set k (.f et sz es)) y := by
     rintro y hy hyb (hb | ⟨k', l', d', ob', g1, g2, g3, g4, g5⟩)
     ·exact H.extOwn y hb ⟨k, l, ⟨y, 0, none⟩, _, ho, rfl, h1, .inr hy, rfl⟩
     ·rw [hg] at g1
      by_cases e : k' = k
      ·subst e
       rw [h1] at g3; cases g3
       rcases g4 with g4 | g4
       ·rw [h5] at g4; cases g4; exact hyb g5.symm
       ·exact g4.1 rfl
      ·rw [if_neg e] at g1
       exact H.apart k' k l' l ob' _ d' ⟨y, 0, none⟩ e g1 ho g2 rfl g3 h1 (hhs _ _ _ g4) (.inr hy) g5
    refine .inr ⟨b, off, c, ty, h5, h6, het, h7, h8, fun i e he => ?_⟩
    obtain ⟨h10, h11⟩ := h9 i e he
    refine ⟨h10, fun j x hx => ?_⟩
    obtain ⟨v, hv, hr⟩ := h11 j x hx
    refine ⟨v, hv, ?_⟩
    unfold CR at hr
    split at hr
    ·exact hr.later lt
    ·rcases hr with ⟨_, _, hr⟩ | ⟨_, ⟨o, sz', hr, _⟩ | ⟨_, hr⟩⟩
     ·exact hr.later lt
     ·cases hr
     ·exact hr.frz lt (fun b' hb' => hno b' (hp.sub i j b' hb').1 (hp.sub i j b' hb').2)
theorem Fn.topR {f : FuncId} {args : List TV} {h h' : List Ob} {r : TV} (F : Fn P f args h r h') {o s et sz : Nat} {es : LL} {n : Option Nat} (ho : h'[o]? = some (.r s et sz es n none)) :
  Fn P f args h r (h'.set o (.f et sz es)) := by
 intro ext w locs vals H hsz ha
 refine (F ext w locs vals H hsz ha).mono ?_
 rintro e w' ⟨v, L, he, H', hr⟩
 obtain ⟨L', hL, H2, lt⟩ := H'.topR ho
 exact ⟨v, L', he, H2, hr.later lt fun k x hx => by rw [hL]; exact hx⟩
end
section
mutual
theorem meas_mono : ∀ (x : Dt) (dp room dp' room' : Int), dp' ≤ dp → room ≤ room' → 0 < x.meas dp room → x.meas dp' room' = x.meas dp room
 | .mk k t n l ds a, dp, room, dp', room', h1, h2, h => by
  unfold Dt.meas at h ⊢
  by_cases c : 64 < dp ∨ room < 1
  ·rw [if_pos c] at h; omega
  rw [if_neg c] at h
  rw [if_neg c, if_neg (show ¬ (64 < dp' ∨ room' < 1) by omega)]
  by_cases c2 : k = 1 ∨ k = 3 ∨ k = 2
  ·rw [if_pos c2] at h
   rw [if_pos c2, if_pos c2]
   by_cases c3 : (plB t n l ds.length false false true && dotB k ds) = true
   ·rw [if_pos c3] at h
    rw [if_pos c3, if_pos c3]
    exact measL_mono ds _ _ _ _ 1 (by omega) h2 h
   ·rw [if_neg c3] at h; omega
  ·rw [if_neg c2, if_neg c2]
theorem measL_mono : ∀ (xs : List Dt) (dp room dp' room' n : Int), dp' ≤ dp → room ≤ room' → 0 < Dt.measL xs dp room n → Dt.measL xs dp' room' n = Dt.measL xs dp room n
 | [], _, _, _, _, _, _, _, _ => rfl
 | x :: xs, dp, room, dp', room', n, h1, h2, h => by
  unfold Dt.measL at h ⊢
  by_cases c : x.meas dp (room - n) < 0
  ·rw [if_pos c] at h; omega
  ·rw [if_neg c] at h
   have hl := meas_le x dp (room - n)
   have e := meas_mono x dp (room - n) dp' (room' - n) h1 (by omega) (by omega)
   rw [e, if_neg c, if_neg c]
   exact measL_mono xs _ _ _ _ _ h1 h2 h
end
theorem measL_mem : ∀ {xs : List Dt} {dp room n : Int}, 1 ≤ n → 0 < Dt.measL xs dp room n → ∀ x ∈ xs, ∃ r, r ≤ room ∧ 0 < x.meas dp r
 | [], _, _, _, _, _, x, hx => by cases hx
 | y :: xs, dp, room, n, hn, h, x, hx => by
  unfold Dt.measL at h
  by_cases c : y.meas dp (room - n) < 0
  ·rw [if_pos c] at h; omega
  ·rw [if_neg c] at h
   have hl := meas_le y dp (room - n)
   rcases List.mem_cons.1 hx with rfl | hx
   ·exact ⟨room - n, by omega, by omega⟩
   ·exact measL_mem (n := n + y.meas dp (room - n)) (by omega) h x hx
theorem dts_mem : ∀ {xs : List Sx} {z : Sx}, z ∈ xs → z.dt ∈ Sx.dts xs
 | x :: xs, z, h => by
  simp only [Sx.dts]
  rcases List.mem_cons.1 h with rfl | h
  ·exact List.mem_cons_self
  ·exact List.mem_cons_of_mem _ (dts_mem h)
theorem othersL_mem : ∀ {ds : List Dt} {d : Dt}, Dt.othersL ds = false → d ∈ ds → d.others = false
 | x :: ds, d, h, hd => by
  simp only [Dt.othersL, Bool.or_eq_false_iff] at h
  rcases List.mem_cons.1 hd with rfl | hd
  ·exact h.1
  ·exact othersL_mem h.2 hd
mutual
theorem shal_mono : ∀ (x : Sx) (r r' : Int), r ≤ r' → x.shal r = true → x.shal r' = true
 | .mk k t n l xs a m u, r, r', h, hs => by
  unfold Sx.shal at hs ⊢
  rw [Bool.and_eq_true, decide_eq_true_eq] at hs ⊢
  exact ⟨by omega, shalL_mono xs _ _ (by omega) hs.2⟩
theorem shalL_mono : ∀ (xs : List Sx) (r r' : Int), r ≤ r' → Sx.shalL xs r = true → Sx.shalL xs r' = true
 | [], _, _, _, _ => rfl
 | x :: xs, r, r', h, hs => by
  unfold Sx.shalL at hs ⊢
  rw [Bool.and_eq_true] at hs ⊢
  exact ⟨shal_mono x r r' h hs.1, shalL_mono xs r r' h hs.2⟩
end
theorem shalL_mem : ∀ {xs : List Sx} {r : Int} {z : Sx}, Sx.shalL xs r = true → z ∈ xs → z.shal r = true
 | x :: xs, r, z, h, hz => by
  unfold Sx.shalL at h
  rw [Bool.and_eq_true] at h
  rcases List.mem_cons.1 hz with rfl | hz
  ·exact h.1
  ·exact shalL_mem h.2 hz
theorem snd_sub {x y : Sx} (h : x.snd = true) (hy : y ∈ x.openV.list) : y.snd = true := by
 have hl := snd_lean h
 have hj := snd_jnd h
 have hE := jnd_E hj
 have hN := jnE_nil hE
 obtain ⟨k, t, n, l, xs, a, m, u⟩ := x
 simp only [Sx.ms, Sx.us] at hE hN
 unfold Sx.lean at hl
 by_cases hk : k = 1 ∨ k = 2 ∨ k = 3
 ·rw [openV_t hk] at hy
  obtain ⟨z, hz, rfl⟩ := List.mem_map.1 (show y ∈ xs.map (jn1 m u) from hy)
  unfold Sx.jnd at hj
  rw [hN.1, hN.2, Bool.and_eq_true] at hj
  have hzj := jnd_L hj.2 z hz
  unfold Sx.snd at h
  simp only [Bool.and_eq_true, Bool.not_eq_true'] at h
  obtain ⟨h1, h2, h3, _⟩ := h
  unfold Sx.shal at h1
  rw [Bool.and_eq_true] at h1
  have g1 : z.shal 64 = true := shal_mono z _ _ (by omega) (shalL_mem h1.2 hz)
  unfold Sx.dt at h2 h3
  have g3 : z.dt.others = false := by
   unfold Dt.others at h3
   rw [Bool.or_eq_false_iff] at h3
   exact othersL_mem h3.1 (dts_mem hz)
  have g2 : z.dt.snd = true := by
   have h2 : 0 < (Dt.mk k t n l (Sx.dts xs) a).meas 1 8192 := of_decide_eq_true h2
   unfold Dt.meas at h2
   rw [if_neg (by omega), if_pos (by omega)] at h2
   split at h2
   ·obtain ⟨r, hr, hm⟩ := measL_mem (by omega) h2 _ (dts_mem hz)
    unfold Dt.snd
    rw [meas_mono z.dt (1 + 1) r 1 8192 (by omega) hr hm]
    exact decide_eq_true hm
   ·omega
  have g4 : (jn1 m u z).jnd [] [] = true := jnd_with (nil_jo m u z.ms z.us).1 (nil_jo m u z.ms z.us).2 (nil_jnE (jo_snd (jnd_E hzj))) hzj
  unfold Sx.snd
  rw [g4, show (jn1 m u z).dt = z.dt from withW_dt z _ _, show (jn1 m u z).shal 64 = z.shal 64 from withW_shal z _ _ _, g1, g2, g3]
  rfl
 ·rcases hl.1 with h' | h'
  ·exact absurd h' hk
  ·subst h'
   rw [openV_f hk] at hy
   cases hy
mutual
def Sx.na : Sx → Sx
 | .mk k t n l xs _ m u => .mk k t n l (Sx.naL xs) 0 m u
def Sx.naL : List Sx → List Sx
 | [] => []
 | x :: xs => x.na :: Sx.naL xs
end
mutual
def Dt.na : Dt → Dt
 | .mk k t n l ds _ => .mk k t n l (Dt.naL ds) 0
def Dt.naL : List Dt → List Dt
 | [] => []
 | x :: xs => x.na :: Dt.naL xs
end
theorem dnaL_map : ∀ ds : List Dt, Dt.naL ds = ds.map Dt.na
 | [] => rfl
 | x :: xs => by simp only [Dt.naL, List.map_cons, dnaL_map xs]
theorem naL_map : ∀ xs : List Sx, Sx.naL xs = xs.map Sx.na
 | [] => rfl
 | x :: xs => by simp only [Sx.naL, List.map_cons, naL_map xs]
theorem dna_kind (d : Dt) : d.na.kind = d.kind := by obtain ⟨k, t, n, l, ds, a⟩ := d; simp only [Dt.na, Dt.kind]
theorem dotB_na (k : Int) (ds : List Dt) : dotB k (Dt.naL ds) = dotB k ds := by
 rw [dnaL_map]
 unfold dotB
 rw [List.getLast?_map]
 cases ds.getLast? with
 | none => rfl
 | some d => simp only [Option.map_some, List.length_map, dna_kind]
mutual
theorem meas_na : ∀ (d : Dt) (dp room : Int), d.na.meas dp room = d.meas dp room
 | .mk k t n l ds a, dp, room => by
  simp only [Dt.na, Dt.meas]
  rw [dotB_na, measL_na ds, show (Dt.naL ds).length = ds.length by rw [dnaL_map, List.length_map]]
theorem measL_na : ∀ (ds : List Dt) (dp room n : Int), Dt.measL (Dt.naL ds) dp room n = Dt.measL ds dp room n
 | [], _, _, _ => rfl
 | x :: xs, dp, room, n => by
  simp only [Dt.naL, Dt.measL]
  rw [meas_na x, measL_na xs]
end
mutual
theorem others_na : ∀ d : Dt, d.na.others = d.others
 | .mk k t n l ds a => by simp only [Dt.na, Dt.others]; rw [othersL_na ds]
theorem othersL_na : ∀ ds : List Dt, Dt.othersL (Dt.naL ds) = Dt.othersL ds
 | [] => rfl
 | x :: xs => by simp only [Dt.naL, Dt.othersL]; rw [others_na x, othersL_na xs]
end
mutual
theorem na_dt : ∀ x : Sx, x.na.dt = x.dt.na
 | .mk k t n l xs a m u => by simp only [Sx.na, Sx.dt, Dt.na]; rw [naL_dts xs]
theorem naL_dts : ∀ xs : List Sx, Sx.dts (Sx.naL xs) = Dt.naL (Sx.dts xs)
 | [] => rfl
 | x :: xs => by simp only [Sx.naL, Sx.dts, Dt.naL]; rw [na_dt x, naL_dts xs]
end
mutual
theorem na_shal : ∀ (x : Sx) (r : Int), x.na.shal r = x.shal r
 | .mk k t n l xs a m u, r => by simp only [Sx.na, Sx.shal]; rw [naL_shal xs]
theorem naL_shal : ∀ (xs : List Sx) (r : Int), Sx.shalL (Sx.naL xs) r = Sx.shalL xs r
 | [], _ => rfl
 | x :: xs, r => by simp only [Sx.naL, Sx.shalL]; rw [na_shal x, naL_shal xs]
end
mutual
theorem na_jnd : ∀ (x : Sx) (M S : List Int), x.na.jnd M S = x.jnd M S
 | .mk k t n l xs a m u, M, S => by simp only [Sx.na, Sx.jnd]; rw [naL_jnd xs]
theorem naL_jnd : ∀ (xs : List Sx) (M S : List Int), Sx.jndL (Sx.naL xs) M S = Sx.jndL xs M S
 | [], _, _ => rfl
 | x :: xs, M, S => by simp only [Sx.naL, Sx.jndL]; rw [na_jnd x, naL_jnd xs]
end
theorem na_snd (x : Sx) : x.na.snd = x.snd := by
 unfold Sx.snd Dt.snd
 rw [na_shal, na_dt, meas_na, others_na, na_jnd]
mutual
theorem na_flat : ∀ (x : Sx) (M S : List Int), x.na.flatS M S = (x.flatS M S).na
 | .mk k t n l xs a m u, M, S => by simp only [Sx.na, Sx.flatS]; rw [naL_flat xs]
theorem naL_flat : ∀ (xs : List Sx) (M S : List Int), Sx.flatL (Sx.naL xs) M S = Sx.naL (Sx.flatL xs M S)
 | [], _, _ => rfl
 | x :: xs, M, S => by simp only [Sx.naL, Sx.flatL]; rw [na_flat x, naL_flat xs]
end
mutual
theorem na_exact : ∀ (x y : Sx), x.na = y.na → x.exact y = true
 | .mk k t n l xs a m u, .mk k' t' n' l' ys a' m' u', h => by
  simp only [Sx.na, Sx.mk.injEq] at h
  obtain ⟨rfl, rfl, rfl, rfl, hx, _, rfl, rfl⟩ := h
  unfold Sx.exact
  have hl : xs.length = ys.length := by
   have := congrArg List.length hx
   rw [naL_map, naL_map, List.length_map, List.length_map] at this
   exact this
  rw [naL_exact xs ys hx, decide_eq_true hl]
  simp
theorem naL_exact : ∀ (xs ys : List Sx), Sx.naL xs = Sx.naL ys → Sx.exactL xs ys = true
 | [], _, _ => by simp only [Sx.exactL]
 | x :: xs, [], h => by simp only [Sx.exactL]
 | x :: xs, y :: ys, h => by
  simp only [Sx.naL, List.cons.injEq] at h
  rw [exactL_cons, na_exact x y h.1, naL_exact xs ys h.2]; rfl
end
theorem na_same {x y : Sx} (h : x.na = y.na) (hs : x.snd = true) : y.snd = true ∧ sameB x y = true := by
 have hy : y.snd = true := by rw [← na_snd, ← h, na_snd]; exact hs
 refine ⟨hy, ?_⟩
 unfold sameB
 rw [hs, hy, ← flat_snd hs, ← flat_snd hy, na_exact _ _ (by rw [← na_flat, ← na_flat, h])]
 rfl
end
section
def symS (s : ByteArray) (a m : Int) : Sx := .mk 4 s false [] [] a [m] [0]
def lstS (a : Int) (xs : List Sx) : Sx := .mk 1 (ByteArray.mk #[]) false [] xs a [] []
def Sx.setL (x : Sx) (ys : List Sx) : Sx := match x with
 | .mk k t n l _ a m u => .mk k t n l ys a m u
def tUnd : ByteArray := ByteArray.mk #[95]
def tSyn : ByteArray := ByteArray.mk #[37, 115, 121, 110, 116, 97, 120]
def tCase : ByteArray := ByteArray.mk #[37, 115, 121, 110, 116, 97, 120, 45, 99, 97, 115, 101]
def tX : ByteArray := ByteArray.mk #[120]
def tLam : ByteArray := ByteArray.mk #[37, 108, 97, 109, 98, 100, 97]
def patV (a m : Int) (p : Sx) : Sx := p.openV.setL (p.openV.list.set 0 (symS tUnd a m))
def patB (p : Sx) : Bool := decide (p.kind = 1 ∨ p.kind = 2) && decide (p.list.length ≠ 0)
def clauseL (a m : Int) : List Sx → Option Sx
 | [p, t] => if patB p = true then some (lstS a [patV a m p, lstS a [symS tSyn a m, t]]) else none
 | _ => none
def clauseV (a m : Int) (x : Sx) : Option Sx := if x.kind = 1 ∧ x.list.length = 2 then clauseL a m x.openV.list else none
def clausesV (a m : Int) : List Sx → Option (List Sx)
 | [] => some []
 | x :: xs => match clauseV a m x with
  | some c => match clausesV a m xs with
   | some cs => some (c :: cs)
   | none => none
  | none => none
def rulesO (a m : Int) (lit : Sx) (cs : List Sx) : Sx := lstS a [symS tLam a m, lstS a [symS tX a m], lstS a (symS tCase a m :: symS tX a m :: lit :: cs)]
def litB (xs : List Sx) : Bool := xs.all fun l => decide (l.kind = 4)
def rulesV (a m : Int) (lit : Sx → Sx) (x : Sx) : Sx × Int :=
 if x.snd = false then (Sx.zero, 2)
 else if m < 1 then (Sx.zero, 1)
 else if x.kind ≠ 1 then (Sx.zero, 7)
 else match x.openV.list with
  | p :: q :: ps =>
   if q.kind ≠ 1 then (Sx.zero, 7)
   else if litB q.openV.list = false then (Sx.zero, 7)
   else match clausesV a m ps with
    | some cs => if (rulesO a m (lit q) cs).snd = true then (rulesO a m (lit q) cs, 0) else (Sx.zero, 6)
    | none => (Sx.zero, 7)
  | _ => (Sx.zero, 7)
theorem na_setL (x : Sx) (ys : List Sx) : (x.setL ys).na = (x.na).setL (Sx.naL ys) := by
 obtain ⟨k, t, n, l, xs, a, m, u⟩ := x
 rfl
theorem symS_na (s : ByteArray) (a b m : Int) : (symS s a m).na = (symS s b m).na := rfl
theorem lstS_na (a b : Int) {xs ys : List Sx} (h : Sx.naL xs = Sx.naL ys) : (lstS a xs).na = (lstS b ys).na := by
 unfold lstS; simp only [Sx.na, h]
theorem naL_cons (x : Sx) (xs : List Sx) : Sx.naL (x :: xs) = x.na :: Sx.naL xs := by simp only [Sx.naL]
theorem naL_nil : Sx.naL [] = [] := by simp only [Sx.naL]
theorem patV_na (a b m : Int) (p : Sx) : (patV a m p).na = (patV b m p).na := by
 unfold patV
 rw [na_setL, na_setL, naL_map, naL_map, List.map_set, List.map_set, symS_na tUnd a b m]
theorem clauseV_na (a b m : Int) (x : Sx) : (clauseV a m x).map Sx.na = (clauseV b m x).map Sx.na := by
 unfold clauseV
 split
 ·unfold clauseL
  split
  ·rename_i p t _
   split
   ·simp only [Option.map_some]
    refine congrArg some (lstS_na a b ?_)
    simp only [naL_cons, naL_nil]
    rw [patV_na a b, lstS_na a b (xs := [symS tSyn a m, t]) (ys := [symS tSyn b m, t]) (by simp only [naL_cons, naL_nil]; rw [symS_na tSyn a b])]
   ·rfl
  ·rfl
 ·rfl
theorem clausesV_na (a b m : Int) : ∀ xs : List Sx, (clausesV a m xs).map Sx.naL = (clausesV b m xs).map Sx.naL
 | [] => rfl
 | x :: xs => by
  have h1 := clauseV_na a b m x
  have h2 := clausesV_na a b m xs
  unfold clausesV
  cases ha : clauseV a m x with
  | none =>
   rw [ha] at h1
   cases hb : clauseV b m x with
   | none => rfl
   | some c => rw [hb] at h1; cases h1
  | some c =>
   rw [ha] at h1
   cases hb : clauseV b m x with
   | none => rw [hb] at h1; cases h1
   | some d =>
    rw [hb] at h1
    simp only [Option.map_some, Option.some.injEq] at h1
    simp only
    cases hc : clausesV a m xs with
    | none =>
     rw [hc] at h2
     cases hd : clausesV b m xs with
     | none => rfl
     | some cs => rw [hd] at h2; cases h2
    | some cs =>
     rw [hc] at h2
     cases hd : clausesV b m xs with
     | none => rw [hd] at h2; cases h2
     | some ds =>
      rw [hd] at h2
      simp only [Option.map_some, Option.some.injEq] at h2
      simp only [Option.map_some, naL_cons, h1, h2]
theorem rulesO_na (a b m : Int) {p q : Sx} {cs ds : List Sx} (h1 : p.na = q.na) (h2 : Sx.naL cs = Sx.naL ds) : (rulesO a m p cs).na = (rulesO b m q ds).na := by
 unfold rulesO
 refine lstS_na a b ?_
 simp only [naL_cons, naL_nil]
 rw [symS_na tLam a b, lstS_na a b (xs := [symS tX a m]) (ys := [symS tX b m]) (by simp only [naL_cons, naL_nil]; rw [symS_na tX a b]),
  lstS_na a b (xs := symS tCase a m :: symS tX a m :: p :: cs) (ys := symS tCase b m :: symS tX b m :: q :: ds) (by simp only [naL_cons]; rw [symS_na tCase a b, symS_na tX a b, h1, h2])]
theorem snd_list {x : Sx} (h : x.snd = true) (hk : x.kind = 1) : ∃ xs a m u, x = .mk 1 (ByteArray.mk #[]) false [] xs a m u := by
 unfold Sx.snd at h
 simp only [Bool.and_eq_true] at h
 have h2 := h.2.1
 obtain ⟨k, t, n, l, xs, a, m, u⟩ := x
 simp only [Sx.kind] at hk
 subst hk
 unfold Dt.snd at h2
 have h2 : 0 < (Sx.mk 1 t n l xs a m u).dt.meas 1 8192 := by simpa using h2
 unfold Sx.dt Dt.meas at h2
 rw [if_neg (by omega), if_pos (.inl rfl)] at h2
 split at h2
 ·rename_i hp
  unfold plB at hp
  simp only [Bool.and_eq_true, Bool.false_or, Bool.true_or, Bool.and_true, decide_eq_true_eq, Bool.not_eq_true'] at hp
  obtain ⟨⟨h3, h4, h5⟩, _⟩ := hp
  refine ⟨xs, a, m, u, ?_⟩
  rw [h4, List.length_eq_zero_iff.1 h5]
  have : t = ByteArray.mk #[] := by rw [← of_bs t, h3]; rfl
  rw [this]
 ·omega
theorem lit_na (a : Int) {q : Sx} (h : q.snd = true) (hk : q.kind = 1) : (lstS a q.openV.list).na = q.openV.na := by
 obtain ⟨xs, b, m, u, rfl⟩ := snd_list h hk
 rw [openV_t (.inl rfl)]
 unfold lstS
 simp only [Sx.na, Sx.list]
theorem rulesV_same (a m : Int) (x : Sx) : (rulesV a m (fun q => lstS a q.openV.list) x).2 = (rulesV 0 m Sx.openV x).2 ∧
  ((rulesV a m (fun q => lstS a q.openV.list) x).2 = 0 → sameB (rulesV a m (fun q => lstS a q.openV.list) x).1 (rulesV 0 m Sx.openV x).1 = true) := by
 unfold rulesV
 split
 ·exact ⟨rfl, fun h => by simp at h⟩
 ·rename_i hs
  have hs : x.snd = true := by simpa using hs
  split
  ·exact ⟨rfl, fun h => by simp at h⟩
  ·split
   ·exact ⟨rfl, fun h => by simp at h⟩
   ·split
    ·rename_i p q ps hx
     have hq : q.snd = true := snd_sub hs (by rw [hx]; simp)
     split
     ·exact ⟨rfl, fun h => by simp at h⟩
     ·rename_i hk
      have hk : q.kind = 1 := by simpa using hk
      split
      ·exact ⟨rfl, fun h => by simp at h⟩
      ·have h2 := clausesV_na a 0 m ps
       cases hc : clausesV a m ps with
       | none =>
        rw [hc] at h2
        cases hd : clausesV 0 m ps with
        | none => exact ⟨rfl, fun h => by simp at h⟩
        | some ds => rw [hd] at h2; cases h2
       | some cs =>
        rw [hc] at h2
        cases hd : clausesV 0 m ps with
        | none => rw [hd] at h2; cases h2
        | some ds =>
         rw [hd] at h2
         simp only [Option.map_some, Option.some.injEq] at h2
         have hn := rulesO_na a 0 m (lit_na a hq hk) h2
         have e : (rulesO a m (lstS a q.openV.list) cs).snd = (rulesO 0 m q.openV ds).snd := by rw [← na_snd, hn, na_snd]
         simp only
         rw [e]
         split
         ·rename_i h
          exact ⟨rfl, fun _ => (na_same hn (by rw [e]; exact h)).2⟩
         ·exact ⟨rfl, fun h => by simp at h⟩
    ·exact ⟨rfl, fun h => by simp at h⟩
end
section
def rules_maker_symbol_lv : List Nat → Keep := lvOf []
def rules_maker_symbol_H (R : TV → List Ob → Prop) (m0 : List (List FV)) (m1 : List (List FV)) (m2 : Int) (name : ByteArray) : Prop :=
 (R (TV.agg [(AV.fz (FV.int .i64 4)), (AV.fz (FV.str name)), (AV.fz (FV.bool false)), (AV.fz (FV.sl 1 ([] : LL))), (AV.fz (FV.sl 8 ([] : LL))), (AV.fz (FV.int .i64 m2)), (AV.fz (FV.sl 1 m0)), (AV.fz (FV.sl 1 m1))]) [])
theorem rules_maker_symbol_fn (m0 : LL) (m1 : LL) (m2 : Int) (name : ByteArray) {r : TV} {h : List Ob} (H : rules_maker_symbol_H (fun r' h' => r' = r ∧ h' = h) m0 m1 m2 name) : Fn Tryz.prog 90 [(TV.agg [(AV.fz (FV.sl 1 m0)), (AV.fz (FV.sl 1 m1)), (AV.fz (FV.int .i64 m2))]), (TV.one (AV.fz (FV.str name)))] [] r h :=
 Fn.by_tr (M := (modeOf [] [])) (lv := rules_maker_symbol_lv) (own := none) (F := Tryz.f90) (by kernel_rfl) (by kernel_rfl) (by first | decide | simp) (fun _ _ h => h) (by kernel_rfl) H
def rules_maker_list_lv : List Nat → Keep := lvOf []
def rules_maker_list_H (R : TV → List Ob → Prop) (m0 : List (List FV)) (m1 : List (List FV)) (m2 : Int) (list : List (List FV)) : Prop :=
 (R (TV.agg [(AV.fz (FV.int .i64 1)), (AV.fz (FV.str (ByteArray.mk #[]))), (AV.fz (FV.bool false)), (AV.fz (FV.sl 1 ([] : LL))), (AV.fz (FV.sl 8 list)), (AV.fz (FV.int .i64 m2)), (AV.fz (FV.sl 1 ([] : LL))), (AV.fz (FV.sl 1 ([] : LL)))]) [])
theorem rules_maker_list_fn (m0 : LL) (m1 : LL) (m2 : Int) (list : LL) {r : TV} {h : List Ob} (H : rules_maker_list_H (fun r' h' => r' = r ∧ h' = h) m0 m1 m2 list) : Fn Tryz.prog 91 [(TV.agg [(AV.fz (FV.sl 1 m0)), (AV.fz (FV.sl 1 m1)), (AV.fz (FV.int .i64 m2))]), (TV.one (AV.fz (FV.sl 8 list)))] [] r h :=
 Fn.by_tr (M := (modeOf [] [])) (lv := rules_maker_list_lv) (own := none) (F := Tryz.f91) (by kernel_rfl) (by kernel_rfl) (by first | decide | simp) (fun _ _ h => h) (by kernel_rfl) H
def rules_open_lv : List Nat → Keep := lvOf []
def rules_open_H (R : TV → List Ob → Prop) (x0 : Int) (x1 : ByteArray) (x2 : Bool) (x3 : LL) (x4 : LL) (x5 : Int) (x6 : LL) (x7 : LL) (n : Int) : Prop :=
 ((((x0 != 1) = true) → (R (TV.tup [(false, [(AV.fz (FV.sl 8 ([] : LL)))]), (false, [(AV.fz (FV.bool false))])]) [])) ∧ (((x0 != 1) = false) → ((((decide ((0 : Int) ≤ n)) = true) → (((((((List.length x4) : Nat) : Int) != n) = true) → (R (TV.tup [(false, [(AV.fz (FV.sl 8 ([] : LL)))]), (false, [(AV.fz (FV.bool false))])]) [])) ∧ ((((((List.length x4) : Nat) : Int) != n) = false) → (∃ n7 : Int, (∃ s2 : ByteArray, (∃ b2 : Bool, (∃ es8 : LL, (∃ es9 : LL, (∃ n8 : Int, (∃ es10 : LL, (∃ es11 : LL, (∃ n9 : Int, ((Fn Tryz.prog 21 [(TV.agg [(AV.fz (FV.int .i64 x0)), (AV.fz (FV.str x1)), (AV.fz (FV.bool x2)), (AV.fz (FV.sl 1 x3)), (AV.fz (FV.sl 8 x4)), (AV.fz (FV.int .i64 x5)), (AV.fz (FV.sl 1 x6)), (AV.fz (FV.sl 1 x7))])] [] (TV.tup [(true, [(AV.fz (FV.int .i64 n7)), (AV.fz (FV.str s2)), (AV.fz (FV.bool b2)), (AV.fz (FV.sl 1 es8)), (AV.fz (FV.sl 8 es9)), (AV.fz (FV.int .i64 n8)), (AV.fz (FV.sl 1 es10)), (AV.fz (FV.sl 1 es11))]), (false, [(AV.fz (FV.int .i64 n9))])]) []) ∧ (R (TV.tup [(false, [(AV.fz (FV.sl 8 es9))]), (false, [(AV.fz (FV.bool (n9 == 0)))])]) [])))))))))))))) ∧ (((decide ((0 : Int) ≤ n)) = false) → (∃ n10 : Int, (∃ s3 : ByteArray, (∃ b3 : Bool, (∃ es12 : LL, (∃ es13 : LL, (∃ n11 : Int, (∃ es14 : LL, (∃ es15 : LL, (∃ n12 : Int, ((Fn Tryz.prog 21 [(TV.agg [(AV.fz (FV.int .i64 x0)), (AV.fz (FV.str x1)), (AV.fz (FV.bool x2)), (AV.fz (FV.sl 1 x3)), (AV.fz (FV.sl 8 x4)), (AV.fz (FV.int .i64 x5)), (AV.fz (FV.sl 1 x6)), (AV.fz (FV.sl 1 x7))])] [] (TV.tup [(true, [(AV.fz (FV.int .i64 n10)), (AV.fz (FV.str s3)), (AV.fz (FV.bool b3)), (AV.fz (FV.sl 1 es12)), (AV.fz (FV.sl 8 es13)), (AV.fz (FV.int .i64 n11)), (AV.fz (FV.sl 1 es14)), (AV.fz (FV.sl 1 es15))]), (false, [(AV.fz (FV.int .i64 n12))])]) []) ∧ (R (TV.tup [(false, [(AV.fz (FV.sl 8 es13))]), (false, [(AV.fz (FV.bool (n12 == 0)))])]) [])))))))))))))))
theorem rules_open_fn (x0 : Int) (x1 : ByteArray) (x2 : Bool) (x3 : LL) (x4 : LL) (x5 : Int) (x6 : LL) (x7 : LL) (n : Int) {r : TV} {h : List Ob} (H : rules_open_H (fun r' h' => r' = r ∧ h' = h) x0 x1 x2 x3 x4 x5 x6 x7 n) : Fn Tryz.prog 89 [(TV.agg [(AV.fz (FV.int .i64 x0)), (AV.fz (FV.str x1)), (AV.fz (FV.bool x2)), (AV.fz (FV.sl 1 x3)), (AV.fz (FV.sl 8 x4)), (AV.fz (FV.int .i64 x5)), (AV.fz (FV.sl 1 x6)), (AV.fz (FV.sl 1 x7))]), (TV.one (AV.fz (FV.int .i64 n)))] [] r h :=
 Fn.by_tr (M := (modeOf [] [])) (lv := rules_open_lv) (own := none) (F := Tryz.f89) (by kernel_rfl) (by kernel_rfl) (by first | decide | simp) (fun _ _ h => h) (by kernel_rfl) H
def rules_maker_clauseO_lv : List Nat → Keep := lvOf []
def rules_maker_clauseO_H (R : TV → List Ob → Prop) (m0 : LL) (m1 : LL) (m2 : Int) (x0 : Int) (x1 : ByteArray) (x2 : Bool) (x3 : LL) (x4 : LL) (x5 : Int) (x6 : LL) (x7 : LL) : Prop :=
 (∃ es49 : LL, (∃ b13 : Bool, ((Fn Tryz.prog 89 [(TV.agg [(AV.fz (FV.int .i64 x0)), (AV.fz (FV.str x1)), (AV.fz (FV.bool x2)), (AV.fz (FV.sl 1 x3)), (AV.fz (FV.sl 8 x4)), (AV.fz (FV.int .i64 x5)), (AV.fz (FV.sl 1 x6)), (AV.fz (FV.sl 1 x7))]), (TV.one (AV.fz (FV.int .i64 2)))] [] (TV.tup [(false, [(AV.fz (FV.sl 8 es49))]), (false, [(AV.fz (FV.bool b13))])]) []) ∧ ((((Bool.not b13) = true) → (R (TV.tup [(true, [(AV.fz (FV.int .i64 0)), (AV.fz (FV.str (ByteArray.mk #[]))), (AV.fz (FV.bool false)), (AV.ofl 1 0), (AV.ofl 8 1), (AV.fz (FV.int .i64 0)), (AV.ofl 1 2), (AV.ofl 1 3)]), (false, [(AV.fz (FV.bool false))])]) [(Ob.f 0 1 ([] : LL)), (Ob.f 0 8 ([] : LL)), (Ob.f 0 1 ([] : LL)), (Ob.f 0 1 ([] : LL))])) ∧ (((Bool.not b13) = false) → (((0 : Int) ≤ 0) ∧ (∃ n26 : Int, (∃ s12 : ByteArray, (∃ b14 : Bool, (∃ es50 : LL, (∃ es51 : LL, (∃ n27 : Int, (∃ es52 : LL, (∃ es53 : LL, (((es49)[(Int.toNat 0)]? = (some [(FV.int .i64 n26), (FV.str s12), (FV.bool b14), (FV.sl 1 es50), (FV.sl 8 es51), (FV.int .i64 n27), (FV.sl 1 es52), (FV.sl 1 es53)])) ∧ (((0 : Int) ≤ 1) ∧ (∃ n28 : Int, (∃ s13 : ByteArray, (∃ b15 : Bool, (∃ es54 : LL, (∃ es55 : LL, (∃ n29 : Int, (∃ es56 : LL, (∃ es57 : LL, (((es49)[(Int.toNat 1)]? = (some [(FV.int .i64 n28), (FV.str s13), (FV.bool b15), (FV.sl 1 es54), (FV.sl 8 es55), (FV.int .i64 n29), (FV.sl 1 es56), (FV.sl 1 es57)])) ∧ ((((n26 != 1) = true) → ((((n26 != 2) = true) → (R (TV.tup [(true, [(AV.fz (FV.int .i64 0)), (AV.fz (FV.str (ByteArray.mk #[]))), (AV.fz (FV.bool false)), (AV.ofl 1 0), (AV.ofl 8 1), (AV.fz (FV.int .i64 0)), (AV.ofl 1 2), (AV.ofl 1 3)]), (false, [(AV.fz (FV.bool false))])]) [(Ob.f 0 1 ([] : LL)), (Ob.f 0 8 ([] : LL)), (Ob.f 0 1 ([] : LL)), (Ob.f 0 1 ([] : LL))])) ∧ (((n26 != 2) = false) → (((((((List.length es51) : Nat) : Int) == 0) = true) → (R (TV.tup [(true, [(AV.fz (FV.int .i64 0)), (AV.fz (FV.str (ByteArray.mk #[]))), (AV.fz (FV.bool false)), (AV.ofl 1 0), (AV.ofl 8 1), (AV.fz (FV.int .i64 0)), (AV.ofl 1 2), (AV.ofl 1 3)]), (false, [(AV.fz (FV.bool false))])]) [(Ob.f 0 1 ([] : LL)), (Ob.f 0 8 ([] : LL)), (Ob.f 0 1 ([] : LL)), (Ob.f 0 1 ([] : LL))])) ∧ ((((((List.length es51) : Nat) : Int) == 0) = false) → (∃ es58 : LL, (∃ n30 : Int, (∃ s14 : ByteArray, (∃ b16 : Bool, (∃ es59 : LL, (∃ n31 : Int, (∃ es60 : LL, (∃ es61 : LL, (∃ n32 : Int, ((Fn Tryz.prog 21 [(TV.agg [(AV.fz (FV.int .i64 n26)), (AV.fz (FV.str s12)), (AV.fz (FV.bool b14)), (AV.fz (FV.sl 1 es50)), (AV.fz (FV.sl 8 es51)), (AV.fz (FV.int .i64 n27)), (AV.fz (FV.sl 1 es52)), (AV.fz (FV.sl 1 es53))])] [] (TV.tup [(true, [(AV.fz (FV.int .i64 n30)), (AV.fz (FV.str s14)), (AV.fz (FV.bool b16)), (AV.fz (FV.sl 1 es59)), (AV.ofl 8 0), (AV.fz (FV.int .i64 n31)), (AV.fz (FV.sl 1 es60)), (AV.fz (FV.sl 1 es61))]), (false, [(AV.fz (FV.int .i64 n32))])]) [(Ob.f 0 8 es58)]) ∧ (∃ n33 : Int, (∃ s15 : ByteArray, (∃ b17 : Bool, (∃ es62 : LL, (∃ es63 : LL, (∃ n34 : Int, (∃ es64 : LL, (∃ es65 : LL, ((Fn Tryz.prog 90 [(TV.agg [(AV.fz (FV.sl 1 m0)), (AV.fz (FV.sl 1 m1)), (AV.fz (FV.int .i64 m2))]), (TV.one (AV.fz (FV.str (ByteArray.mk #[95]))))] [] (TV.agg [(AV.fz (FV.int .i64 n33)), (AV.fz (FV.str s15)), (AV.fz (FV.bool b17)), (AV.fz (FV.sl 1 es62)), (AV.fz (FV.sl 8 es63)), (AV.fz (FV.int .i64 n34)), (AV.fz (FV.sl 1 es64)), (AV.fz (FV.sl 1 es65))]) []) ∧ ((((0 : Int) ≤ 0) ∧ ((0 : Int) < (((List.length es58) : Nat) : Int))) ∧ (((Int.toNat 0) < (List.length es58)) ∧ (∃ n35 : Int, (∃ s16 : ByteArray, (∃ b18 : Bool, (∃ es66 : LL, (∃ es67 : LL, (∃ n36 : Int, (∃ es68 : LL, (∃ es69 : LL, ((Fn Tryz.prog 90 [(TV.agg [(AV.fz (FV.sl 1 m0)), (AV.fz (FV.sl 1 m1)), (AV.fz (FV.int .i64 m2))]), (TV.one (AV.fz (FV.str (ByteArray.mk #[37, 115, 121, 110, 116, 97, 120]))))] [] (TV.agg [(AV.fz (FV.int .i64 n35)), (AV.fz (FV.str s16)), (AV.fz (FV.bool b18)), (AV.fz (FV.sl 1 es66)), (AV.fz (FV.sl 8 es67)), (AV.fz (FV.int .i64 n36)), (AV.fz (FV.sl 1 es68)), (AV.fz (FV.sl 1 es69))]) []) ∧ (∃ n37 : Int, (∃ s17 : ByteArray, (∃ b19 : Bool, (∃ es70 : LL, (∃ es71 : LL, (∃ n38 : Int, (∃ es72 : LL, (∃ es73 : LL, ((Fn Tryz.prog 91 [(TV.agg [(AV.fz (FV.sl 1 m0)), (AV.fz (FV.sl 1 m1)), (AV.fz (FV.int .i64 m2))]), (TV.one (AV.fz (FV.sl 8 [[(FV.int .i64 n35), (FV.str s16), (FV.bool b18), (FV.sl 1 es66), (FV.sl 8 es67), (FV.int .i64 n36), (FV.sl 1 es68), (FV.sl 1 es69)], [(FV.int .i64 n28), (FV.str s13), (FV.bool b15), (FV.sl 1 es54), (FV.sl 8 es55), (FV.int .i64 n29), (FV.sl 1 es56), (FV.sl 1 es57)]])))] [] (TV.agg [(AV.fz (FV.int .i64 n37)), (AV.fz (FV.str s17)), (AV.fz (FV.bool b19)), (AV.fz (FV.sl 1 es70)), (AV.fz (FV.sl 8 es71)), (AV.fz (FV.int .i64 n38)), (AV.fz (FV.sl 1 es72)), (AV.fz (FV.sl 1 es73))]) []) ∧ (∃ n39 : Int, (∃ s18 : ByteArray, (∃ b20 : Bool, (∃ es74 : LL, (∃ es75 : LL, (∃ n40 : Int, (∃ es76 : LL, (∃ es77 : LL, ((Fn Tryz.prog 91 [(TV.agg [(AV.fz (FV.sl 1 m0)), (AV.fz (FV.sl 1 m1)), (AV.fz (FV.int .i64 m2))]), (TV.one (AV.fz (FV.sl 8 [[(FV.int .i64 n30), (FV.str s14), (FV.bool b16), (FV.sl 1 es59), (FV.sl 8 (List.set es58 (Int.toNat 0) [(FV.int .i64 n33), (FV.str s15), (FV.bool b17), (FV.sl 1 es62), (FV.sl 8 es63), (FV.int .i64 n34), (FV.sl 1 es64), (FV.sl 1 es65)])), (FV.int .i64 n31), (FV.sl 1 es60), (FV.sl 1 es61)], [(FV.int .i64 n37), (FV.str s17), (FV.bool b19), (FV.sl 1 es70), (FV.sl 8 es71), (FV.int .i64 n38), (FV.sl 1 es72), (FV.sl 1 es73)]])))] [] (TV.agg [(AV.fz (FV.int .i64 n39)), (AV.fz (FV.str s18)), (AV.fz (FV.bool b20)), (AV.fz (FV.sl 1 es74)), (AV.fz (FV.sl 8 es75)), (AV.fz (FV.int .i64 n40)), (AV.fz (FV.sl 1 es76)), (AV.fz (FV.sl 1 es77))]) []) ∧ (R (TV.tup [(true, [(AV.fz (FV.int .i64 n39)), (AV.fz (FV.str s18)), (AV.fz (FV.bool b20)), (AV.fz (FV.sl 1 es74)), (AV.fz (FV.sl 8 es75)), (AV.fz (FV.int .i64 n40)), (AV.fz (FV.sl 1 es76)), (AV.fz (FV.sl 1 es77))]), (false, [(AV.fz (FV.bool true))])]) [])))))))))))))))))))))))))))))))))))))))))))))))))))))) ∧ (((n26 != 1) = false) → (((((((List.length es51) : Nat) : Int) == 0) = true) → (R (TV.tup [(true, [(AV.fz (FV.int .i64 0)), (AV.fz (FV.str (ByteArray.mk #[]))), (AV.fz (FV.bool false)), (AV.ofl 1 0), (AV.ofl 8 1), (AV.fz (FV.int .i64 0)), (AV.ofl 1 2), (AV.ofl 1 3)]), (false, [(AV.fz (FV.bool false))])]) [(Ob.f 0 1 ([] : LL)), (Ob.f 0 8 ([] : LL)), (Ob.f 0 1 ([] : LL)), (Ob.f 0 1 ([] : LL))])) ∧ ((((((List.length es51) : Nat) : Int) == 0) = false) → (∃ es78 : LL, (∃ n41 : Int, (∃ s19 : ByteArray, (∃ b21 : Bool, (∃ es79 : LL, (∃ n42 : Int, (∃ es80 : LL, (∃ es81 : LL, (∃ n43 : Int, ((Fn Tryz.prog 21 [(TV.agg [(AV.fz (FV.int .i64 n26)), (AV.fz (FV.str s12)), (AV.fz (FV.bool b14)), (AV.fz (FV.sl 1 es50)), (AV.fz (FV.sl 8 es51)), (AV.fz (FV.int .i64 n27)), (AV.fz (FV.sl 1 es52)), (AV.fz (FV.sl 1 es53))])] [] (TV.tup [(true, [(AV.fz (FV.int .i64 n41)), (AV.fz (FV.str s19)), (AV.fz (FV.bool b21)), (AV.fz (FV.sl 1 es79)), (AV.ofl 8 0), (AV.fz (FV.int .i64 n42)), (AV.fz (FV.sl 1 es80)), (AV.fz (FV.sl 1 es81))]), (false, [(AV.fz (FV.int .i64 n43))])]) [(Ob.f 0 8 es78)]) ∧ (∃ n44 : Int, (∃ s20 : ByteArray, (∃ b22 : Bool, (∃ es82 : LL, (∃ es83 : LL, (∃ n45 : Int, (∃ es84 : LL, (∃ es85 : LL, ((Fn Tryz.prog 90 [(TV.agg [(AV.fz (FV.sl 1 m0)), (AV.fz (FV.sl 1 m1)), (AV.fz (FV.int .i64 m2))]), (TV.one (AV.fz (FV.str (ByteArray.mk #[95]))))] [] (TV.agg [(AV.fz (FV.int .i64 n44)), (AV.fz (FV.str s20)), (AV.fz (FV.bool b22)), (AV.fz (FV.sl 1 es82)), (AV.fz (FV.sl 8 es83)), (AV.fz (FV.int .i64 n45)), (AV.fz (FV.sl 1 es84)), (AV.fz (FV.sl 1 es85))]) []) ∧ ((((0 : Int) ≤ 0) ∧ ((0 : Int) < (((List.length es78) : Nat) : Int))) ∧ (((Int.toNat 0) < (List.length es78)) ∧ (∃ n46 : Int, (∃ s21 : ByteArray, (∃ b23 : Bool, (∃ es86 : LL, (∃ es87 : LL, (∃ n47 : Int, (∃ es88 : LL, (∃ es89 : LL, ((Fn Tryz.prog 90 [(TV.agg [(AV.fz (FV.sl 1 m0)), (AV.fz (FV.sl 1 m1)), (AV.fz (FV.int .i64 m2))]), (TV.one (AV.fz (FV.str (ByteArray.mk #[37, 115, 121, 110, 116, 97, 120]))))] [] (TV.agg [(AV.fz (FV.int .i64 n46)), (AV.fz (FV.str s21)), (AV.fz (FV.bool b23)), (AV.fz (FV.sl 1 es86)), (AV.fz (FV.sl 8 es87)), (AV.fz (FV.int .i64 n47)), (AV.fz (FV.sl 1 es88)), (AV.fz (FV.sl 1 es89))]) []) ∧ (∃ n48 : Int, (∃ s22 : ByteArray, (∃ b24 : Bool, (∃ es90 : LL, (∃ es91 : LL, (∃ n49 : Int, (∃ es92 : LL, (∃ es93 : LL, ((Fn Tryz.prog 91 [(TV.agg [(AV.fz (FV.sl 1 m0)), (AV.fz (FV.sl 1 m1)), (AV.fz (FV.int .i64 m2))]), (TV.one (AV.fz (FV.sl 8 [[(FV.int .i64 n46), (FV.str s21), (FV.bool b23), (FV.sl 1 es86), (FV.sl 8 es87), (FV.int .i64 n47), (FV.sl 1 es88), (FV.sl 1 es89)], [(FV.int .i64 n28), (FV.str s13), (FV.bool b15), (FV.sl 1 es54), (FV.sl 8 es55), (FV.int .i64 n29), (FV.sl 1 es56), (FV.sl 1 es57)]])))] [] (TV.agg [(AV.fz (FV.int .i64 n48)), (AV.fz (FV.str s22)), (AV.fz (FV.bool b24)), (AV.fz (FV.sl 1 es90)), (AV.fz (FV.sl 8 es91)), (AV.fz (FV.int .i64 n49)), (AV.fz (FV.sl 1 es92)), (AV.fz (FV.sl 1 es93))]) []) ∧ (∃ n50 : Int, (∃ s23 : ByteArray, (∃ b25 : Bool, (∃ es94 : LL, (∃ es95 : LL, (∃ n51 : Int, (∃ es96 : LL, (∃ es97 : LL, ((Fn Tryz.prog 91 [(TV.agg [(AV.fz (FV.sl 1 m0)), (AV.fz (FV.sl 1 m1)), (AV.fz (FV.int .i64 m2))]), (TV.one (AV.fz (FV.sl 8 [[(FV.int .i64 n41), (FV.str s19), (FV.bool b21), (FV.sl 1 es79), (FV.sl 8 (List.set es78 (Int.toNat 0) [(FV.int .i64 n44), (FV.str s20), (FV.bool b22), (FV.sl 1 es82), (FV.sl 8 es83), (FV.int .i64 n45), (FV.sl 1 es84), (FV.sl 1 es85)])), (FV.int .i64 n42), (FV.sl 1 es80), (FV.sl 1 es81)], [(FV.int .i64 n48), (FV.str s22), (FV.bool b24), (FV.sl 1 es90), (FV.sl 8 es91), (FV.int .i64 n49), (FV.sl 1 es92), (FV.sl 1 es93)]])))] [] (TV.agg [(AV.fz (FV.int .i64 n50)), (AV.fz (FV.str s23)), (AV.fz (FV.bool b25)), (AV.fz (FV.sl 1 es94)), (AV.fz (FV.sl 8 es95)), (AV.fz (FV.int .i64 n51)), (AV.fz (FV.sl 1 es96)), (AV.fz (FV.sl 1 es97))]) []) ∧ (R (TV.tup [(true, [(AV.fz (FV.int .i64 n50)), (AV.fz (FV.str s23)), (AV.fz (FV.bool b25)), (AV.fz (FV.sl 1 es94)), (AV.fz (FV.sl 8 es95)), (AV.fz (FV.int .i64 n51)), (AV.fz (FV.sl 1 es96)), (AV.fz (FV.sl 1 es97))]), (false, [(AV.fz (FV.bool true))])]) []))))))))))))))))))))))))))))))))))))))))))))))))))))))))))))))))))))))))))))))
theorem rules_maker_clauseO_fc (m0 : LL) (m1 : LL) (m2 : Int) (x0 : Int) (x1 : ByteArray) (x2 : Bool) (x3 : LL) (x4 : LL) (x5 : Int) (x6 : LL) (x7 : LL) {r : TV} {h : List Ob} (H : rules_maker_clauseO_H (fun r' h' => Cool 0 r' h' r h) m0 m1 m2 x0 x1 x2 x3 x4 x5 x6 x7) : Fn Tryz.prog 92 [(TV.agg [(AV.fz (FV.sl 1 m0)), (AV.fz (FV.sl 1 m1)), (AV.fz (FV.int .i64 m2))]), (TV.agg [(AV.fz (FV.int .i64 x0)), (AV.fz (FV.str x1)), (AV.fz (FV.bool x2)), (AV.fz (FV.sl 1 x3)), (AV.fz (FV.sl 8 x4)), (AV.fz (FV.int .i64 x5)), (AV.fz (FV.sl 1 x6)), (AV.fz (FV.sl 1 x7))])] [] r h :=
 Fn.by_trC (M := (modeOf [] [(21, [(Sig.mk 0 [(true, [(AT.k (CK.int .i64)), (AT.k CK.str), (AT.k CK.bool), (AT.k (CK.sl 1)), (AT.a (AV.ofl 8 0)), (AT.k (CK.int .i64)), (AT.k (CK.sl 1)), (AT.k (CK.sl 1))]), (false, [(AT.k (CK.int .i64))])] [(OT.f 0 8)] 0)])])) (lv := rules_maker_clauseO_lv) (own := (some 0)) (F := Tryz.f92) (by kernel_rfl) (by kernel_rfl) (by first | decide | simp) (fun _ _ h => h) (by kernel_rfl) H
def rules_Rules_lv : List Nat → Keep := lvOf [([0, 1, 0, 1, 1, 1, 1, 1, 1, 1], ⟨252201579132748496, 0, [], false, false⟩), ([0, 1, 0, 1, 1, 1, 1, 1, 1, 1, 1, 1], ⟨264452523040700131971152, 0, [], false, false⟩)]
def rules_Rules_S0 (x5 : Int) (es2 : LL) (es7 : LL) (i : Int) (i1 : Int) (es : LL) (es1 : LL) : St := (St.mk [TV.und, TV.und, TV.und, TV.und, (TV.one (AV.ptr 0 0 0 0)), TV.und, (TV.one (AV.ptr 1 0 0 0)), (TV.one (AV.fz (FV.sl 8 es2))), TV.und, (TV.one (AV.fz (FV.sl 8 es7))), TV.und, TV.und, TV.und, TV.und, TV.und, TV.und, TV.und, TV.und, TV.und, TV.und, TV.und, TV.und, TV.und, TV.und, TV.und, TV.und, TV.und, TV.und, TV.und, TV.und, TV.und, TV.und, TV.und, TV.und, TV.und, TV.und, TV.und, TV.und, TV.und, TV.und, TV.und, TV.und, TV.und, TV.und, TV.und, TV.und, TV.und, TV.und, TV.und, TV.und, TV.und, TV.und, TV.und, TV.und, TV.und, (TV.one (AV.fz (FV.sl 8 es7))), (TV.one (AV.fz (FV.int .i64 i))), (TV.one (AV.fz (FV.int .i64 i1))), TV.und, TV.und, TV.und, TV.und, TV.und, TV.und, TV.und, TV.und, TV.und, TV.und, TV.und, TV.und, TV.und, TV.und, TV.und, TV.und, TV.und, TV.und, TV.und, TV.und, TV.und, TV.und, TV.und, TV.und, TV.und, TV.und, TV.und, TV.und, TV.und, TV.und, TV.und, TV.und, TV.und, TV.und, TV.und, TV.und, TV.und, TV.und, TV.und, TV.und, TV.und, TV.und, TV.und, TV.und, TV.und, TV.und, TV.und, TV.und, TV.und, TV.und, TV.und, TV.und, TV.und, TV.und, TV.und] [(Ob.g 28 [(AV.fz (FV.int .i64 0)), (AV.fz (FV.str (ByteArray.mk #[]))), (AV.fz (FV.bool false)), (AV.ofl 1 2), (AV.ofl 8 3), (AV.fz (FV.int .i64 0)), (AV.ofl 1 4), (AV.ofl 1 5)]), (Ob.g 118 [(AV.fz (FV.sl 1 es)), (AV.fz (FV.sl 1 es1)), (AV.fz (FV.int .i64 x5))]), (Ob.f 0 1 ([] : LL)), (Ob.f 0 8 ([] : LL)), (Ob.f 0 1 ([] : LL)), (Ob.f 0 1 ([] : LL))])
def rules_Rules_L0 (R : TV → List Ob → Prop) (x5 : Int) (es2 : LL) (es7 : LL) (i : Int) (i1 : Int) (es : LL) (es1 : LL) : Prop := LoopAt Tryz.prog (modeOf [] []) rules_Rules_lv Tryz.f51 none R [1, 1, 1, 1, 1, 1, 1, 0, 1, 0] (rules_Rules_S0 x5 es2 es7 i i1 es es1)
def rules_Rules_S1 (x5 : Int) (l : LL) (i2 : Int) (i3 : Int) (es : LL) (es1 : LL) (o : LL) : St := (St.mk [TV.und, TV.und, TV.und, TV.und, (TV.one (AV.ptr 0 0 0 0)), TV.und, (TV.one (AV.ptr 1 0 0 0)), TV.und, TV.und, TV.und, TV.und, TV.und, (TV.one (AV.ofl 8 2)), TV.und, TV.und, TV.und, TV.und, TV.und, TV.und, TV.und, TV.und, TV.und, TV.und, TV.und, TV.und, TV.und, TV.und, TV.und, TV.und, TV.und, TV.und, TV.und, TV.und, TV.und, TV.und, TV.und, TV.und, TV.und, TV.und, TV.und, TV.und, TV.und, TV.und, TV.und, TV.und, TV.und, TV.und, TV.und, TV.und, TV.und, TV.und, TV.und, TV.und, TV.und, TV.und, TV.und, TV.und, TV.und, TV.und, TV.und, TV.und, TV.und, TV.und, TV.und, TV.und, TV.und, TV.und, TV.und, TV.und, TV.und, TV.und, TV.und, TV.und, TV.und, TV.und, (TV.one (AV.fz (FV.sl 8 l))), (TV.one (AV.fz (FV.int .i64 i2))), (TV.one (AV.fz (FV.int .i64 i3))), TV.und, TV.und, TV.und, TV.und, TV.und, TV.und, TV.und, TV.und, TV.und, TV.und, TV.und, TV.und, TV.und, TV.und, TV.und, TV.und, TV.und, TV.und, TV.und, TV.und, TV.und, TV.und, TV.und, TV.und, TV.und, TV.und, TV.und, TV.und, TV.und, TV.und, TV.und, TV.und, TV.und, TV.und, TV.und] [(Ob.g 28 [(AV.fz (FV.int .i64 0)), (AV.fz (FV.str (ByteArray.mk #[]))), (AV.fz (FV.bool false)), (AV.ofl 1 3), (AV.ofl 8 4), (AV.fz (FV.int .i64 0)), (AV.ofl 1 5), (AV.ofl 1 6)]), (Ob.g 118 [(AV.fz (FV.sl 1 es)), (AV.fz (FV.sl 1 es1)), (AV.fz (FV.int .i64 x5))]), (Ob.f 28 8 o), (Ob.f 0 1 ([] : LL)), (Ob.f 0 8 ([] : LL)), (Ob.f 0 1 ([] : LL)), (Ob.f 0 1 ([] : LL))])
def rules_Rules_L1 (R : TV → List Ob → Prop) (x5 : Int) (l : LL) (i2 : Int) (i3 : Int) (es : LL) (es1 : LL) (o : LL) : Prop := LoopAt Tryz.prog (modeOf [] []) rules_Rules_lv Tryz.f51 none R [1, 1, 1, 1, 1, 1, 1, 1, 1, 0, 1, 0] (rules_Rules_S1 x5 l i2 i3 es es1 o)
def rules_Rules_R0 (R : TV → List Ob → Prop) (x5 : Int) (es2 : LL) (es7 : LL) (i : Int) (i1 : Int) (es : LL) (es1 : LL) : Prop :=
 ((((decide (i1 < i)) = true) → (((0 : Int) ≤ i1) ∧ (∃ n60 : Int, (∃ s30 : ByteArray, (∃ b39 : Bool, (∃ es124 : LL, (∃ es125 : LL, (∃ n61 : Int, (∃ es126 : LL, (∃ es127 : LL, (((es7)[(Int.toNat i1)]? = (some [(FV.int .i64 n60), (FV.str s30), (FV.bool b39), (FV.sl 1 es124), (FV.sl 8 es125), (FV.int .i64 n61), (FV.sl 1 es126), (FV.sl 1 es127)])) ∧ ((((n60 != 4) = true) → (R (TV.tup [(true, [(AV.fz (FV.int .i64 0)), (AV.fz (FV.str (ByteArray.mk #[]))), (AV.fz (FV.bool false)), (AV.fz (FV.sl 1 ([] : LL))), (AV.fz (FV.sl 8 ([] : LL))), (AV.fz (FV.int .i64 0)), (AV.fz (FV.sl 1 ([] : LL))), (AV.fz (FV.sl 1 ([] : LL)))]), (false, [(AV.fz (FV.int .i64 7))])]) [])) ∧ (((n60 != 4) = false) → (rules_Rules_L0 R x5 es2 es7 i (IntKind.wrap .i64 (i1 + 1)) es es1)))))))))))))) ∧ (((decide (i1 < i)) = false) → (∃ n62 : Int, (∃ s31 : ByteArray, (∃ b40 : Bool, (∃ es128 : LL, (∃ es129 : LL, (∃ n63 : Int, (∃ es130 : LL, (∃ es131 : LL, ((Fn Tryz.prog 90 [(TV.agg [(AV.fz (FV.sl 1 es)), (AV.fz (FV.sl 1 es1)), (AV.fz (FV.int .i64 x5))]), (TV.one (AV.fz (FV.str (ByteArray.mk #[37, 115, 121, 110, 116, 97, 120, 45, 99, 97, 115, 101]))))] [] (TV.agg [(AV.fz (FV.int .i64 n62)), (AV.fz (FV.str s31)), (AV.fz (FV.bool b40)), (AV.fz (FV.sl 1 es128)), (AV.fz (FV.sl 8 es129)), (AV.fz (FV.int .i64 n63)), (AV.fz (FV.sl 1 es130)), (AV.fz (FV.sl 1 es131))]) []) ∧ (∃ n64 : Int, (∃ s32 : ByteArray, (∃ b41 : Bool, (∃ es132 : LL, (∃ es133 : LL, (∃ n65 : Int, (∃ es134 : LL, (∃ es135 : LL, ((Fn Tryz.prog 90 [(TV.agg [(AV.fz (FV.sl 1 es)), (AV.fz (FV.sl 1 es1)), (AV.fz (FV.int .i64 x5))]), (TV.one (AV.fz (FV.str (ByteArray.mk #[120]))))] [] (TV.agg [(AV.fz (FV.int .i64 n64)), (AV.fz (FV.str s32)), (AV.fz (FV.bool b41)), (AV.fz (FV.sl 1 es132)), (AV.fz (FV.sl 8 es133)), (AV.fz (FV.int .i64 n65)), (AV.fz (FV.sl 1 es134)), (AV.fz (FV.sl 1 es135))]) []) ∧ (∃ n66 : Int, (∃ s33 : ByteArray, (∃ b42 : Bool, (∃ es136 : LL, (∃ es137 : LL, (∃ n67 : Int, (∃ es138 : LL, (∃ es139 : LL, ((Fn Tryz.prog 91 [(TV.agg [(AV.fz (FV.sl 1 es)), (AV.fz (FV.sl 1 es1)), (AV.fz (FV.int .i64 x5))]), (TV.one (AV.fz (FV.sl 8 es7)))] [] (TV.agg [(AV.fz (FV.int .i64 n66)), (AV.fz (FV.str s33)), (AV.fz (FV.bool b42)), (AV.fz (FV.sl 1 es136)), (AV.fz (FV.sl 8 es137)), (AV.fz (FV.int .i64 n67)), (AV.fz (FV.sl 1 es138)), (AV.fz (FV.sl 1 es139))]) []) ∧ ((((0 : Int) ≤ 2) ∧ ((2 : Int) ≤ (((List.length es2) : Nat) : Int))) ∧ (rules_Rules_L1 R x5 (List.drop (Int.toNat 2) es2) (((List.length (List.drop (Int.toNat 2) es2)) : Nat) : Int) 0 es es1 [[(FV.int .i64 n62), (FV.str s31), (FV.bool b40), (FV.sl 1 es128), (FV.sl 8 es129), (FV.int .i64 n63), (FV.sl 1 es130), (FV.sl 1 es131)], [(FV.int .i64 n64), (FV.str s32), (FV.bool b41), (FV.sl 1 es132), (FV.sl 8 es133), (FV.int .i64 n65), (FV.sl 1 es134), (FV.sl 1 es135)], [(FV.int .i64 n66), (FV.str s33), (FV.bool b42), (FV.sl 1 es136), (FV.sl 8 es137), (FV.int .i64 n67), (FV.sl 1 es138), (FV.sl 1 es139)]])))))))))))))))))))))))))))))))
theorem rules_Rules_l0 {R : TV → List Ob → Prop} {x5 : Int} {es2 : LL} {es7 : LL} {i : Int} {i1 : Int} {es : LL} {es1 : LL} (h : rules_Rules_R0 R x5 es2 es7 i i1 es es1) : rules_Rules_L0 R x5 es2 es7 i i1 es es1 :=
 LoopAt.by_tr (by kernel_rfl) (by kernel_rfl) h
def rules_Rules_R1 (R : TV → List Ob → Prop) (x5 : Int) (l : LL) (i2 : Int) (i3 : Int) (es : LL) (es1 : LL) (o : LL) : Prop :=
 ((((decide (i3 < i2)) = true) → (((0 : Int) ≤ i3) ∧ (∃ n60 : Int, (∃ s30 : ByteArray, (∃ b39 : Bool, (∃ es124 : LL, (∃ es125 : LL, (∃ n61 : Int, (∃ es126 : LL, (∃ es127 : LL, (((l)[(Int.toNat i3)]? = (some [(FV.int .i64 n60), (FV.str s30), (FV.bool b39), (FV.sl 1 es124), (FV.sl 8 es125), (FV.int .i64 n61), (FV.sl 1 es126), (FV.sl 1 es127)])) ∧ (∃ n62 : Int, (∃ s31 : ByteArray, (∃ b40 : Bool, (∃ es128 : LL, (∃ es129 : LL, (∃ n63 : Int, (∃ es130 : LL, (∃ es131 : LL, (∃ b41 : Bool, ((Fn Tryz.prog 92 [(TV.agg [(AV.fz (FV.sl 1 es)), (AV.fz (FV.sl 1 es1)), (AV.fz (FV.int .i64 x5))]), (TV.agg [(AV.fz (FV.int .i64 n60)), (AV.fz (FV.str s30)), (AV.fz (FV.bool b39)), (AV.fz (FV.sl 1 es124)), (AV.fz (FV.sl 8 es125)), (AV.fz (FV.int .i64 n61)), (AV.fz (FV.sl 1 es126)), (AV.fz (FV.sl 1 es127))])] [] (TV.tup [(true, [(AV.fz (FV.int .i64 n62)), (AV.fz (FV.str s31)), (AV.fz (FV.bool b40)), (AV.fz (FV.sl 1 es128)), (AV.fz (FV.sl 8 es129)), (AV.fz (FV.int .i64 n63)), (AV.fz (FV.sl 1 es130)), (AV.fz (FV.sl 1 es131))]), (false, [(AV.fz (FV.bool b41))])]) []) ∧ ((((Bool.not b41) = true) → (R (TV.tup [(true, [(AV.fz (FV.int .i64 0)), (AV.fz (FV.str (ByteArray.mk #[]))), (AV.fz (FV.bool false)), (AV.fz (FV.sl 1 ([] : LL))), (AV.fz (FV.sl 8 ([] : LL))), (AV.fz (FV.int .i64 0)), (AV.fz (FV.sl 1 ([] : LL))), (AV.fz (FV.sl 1 ([] : LL)))]), (false, [(AV.fz (FV.int .i64 7))])]) [])) ∧ (((Bool.not b41) = false) → (((((List.length o) + (List.length [[(FV.int .i64 n62), (FV.str s31), (FV.bool b40), (FV.sl 1 es128), (FV.sl 8 es129), (FV.int .i64 n63), (FV.sl 1 es130), (FV.sl 1 es131)]])) * 136) ≤ 220000000000000) ∧ (rules_Rules_L1 R x5 l i2 (IntKind.wrap .i64 (i3 + 1)) es es1 (o ++ [[(FV.int .i64 n62), (FV.str s31), (FV.bool b40), (FV.sl 1 es128), (FV.sl 8 es129), (FV.int .i64 n63), (FV.sl 1 es130), (FV.sl 1 es131)]])))))))))))))))))))))))))) ∧ (((decide (i3 < i2)) = false) → (∃ n64 : Int, (∃ s32 : ByteArray, (∃ b42 : Bool, (∃ es132 : LL, (∃ es133 : LL, (∃ n65 : Int, (∃ es134 : LL, (∃ es135 : LL, ((Fn Tryz.prog 90 [(TV.agg [(AV.fz (FV.sl 1 es)), (AV.fz (FV.sl 1 es1)), (AV.fz (FV.int .i64 x5))]), (TV.one (AV.fz (FV.str (ByteArray.mk #[37, 108, 97, 109, 98, 100, 97]))))] [] (TV.agg [(AV.fz (FV.int .i64 n64)), (AV.fz (FV.str s32)), (AV.fz (FV.bool b42)), (AV.fz (FV.sl 1 es132)), (AV.fz (FV.sl 8 es133)), (AV.fz (FV.int .i64 n65)), (AV.fz (FV.sl 1 es134)), (AV.fz (FV.sl 1 es135))]) []) ∧ (∃ n66 : Int, (∃ s33 : ByteArray, (∃ b43 : Bool, (∃ es136 : LL, (∃ es137 : LL, (∃ n67 : Int, (∃ es138 : LL, (∃ es139 : LL, ((Fn Tryz.prog 90 [(TV.agg [(AV.fz (FV.sl 1 es)), (AV.fz (FV.sl 1 es1)), (AV.fz (FV.int .i64 x5))]), (TV.one (AV.fz (FV.str (ByteArray.mk #[120]))))] [] (TV.agg [(AV.fz (FV.int .i64 n66)), (AV.fz (FV.str s33)), (AV.fz (FV.bool b43)), (AV.fz (FV.sl 1 es136)), (AV.fz (FV.sl 8 es137)), (AV.fz (FV.int .i64 n67)), (AV.fz (FV.sl 1 es138)), (AV.fz (FV.sl 1 es139))]) []) ∧ (∃ n68 : Int, (∃ s34 : ByteArray, (∃ b44 : Bool, (∃ es140 : LL, (∃ es141 : LL, (∃ n69 : Int, (∃ es142 : LL, (∃ es143 : LL, ((Fn Tryz.prog 91 [(TV.agg [(AV.fz (FV.sl 1 es)), (AV.fz (FV.sl 1 es1)), (AV.fz (FV.int .i64 x5))]), (TV.one (AV.fz (FV.sl 8 [[(FV.int .i64 n66), (FV.str s33), (FV.bool b43), (FV.sl 1 es136), (FV.sl 8 es137), (FV.int .i64 n67), (FV.sl 1 es138), (FV.sl 1 es139)]])))] [] (TV.agg [(AV.fz (FV.int .i64 n68)), (AV.fz (FV.str s34)), (AV.fz (FV.bool b44)), (AV.fz (FV.sl 1 es140)), (AV.fz (FV.sl 8 es141)), (AV.fz (FV.int .i64 n69)), (AV.fz (FV.sl 1 es142)), (AV.fz (FV.sl 1 es143))]) []) ∧ (∃ n70 : Int, (∃ s35 : ByteArray, (∃ b45 : Bool, (∃ es144 : LL, (∃ es145 : LL, (∃ n71 : Int, (∃ es146 : LL, (∃ es147 : LL, ((Fn Tryz.prog 91 [(TV.agg [(AV.fz (FV.sl 1 es)), (AV.fz (FV.sl 1 es1)), (AV.fz (FV.int .i64 x5))]), (TV.one (AV.fz (FV.sl 8 o)))] [] (TV.agg [(AV.fz (FV.int .i64 n70)), (AV.fz (FV.str s35)), (AV.fz (FV.bool b45)), (AV.fz (FV.sl 1 es144)), (AV.fz (FV.sl 8 es145)), (AV.fz (FV.int .i64 n71)), (AV.fz (FV.sl 1 es146)), (AV.fz (FV.sl 1 es147))]) []) ∧ (∃ n72 : Int, (∃ s36 : ByteArray, (∃ b46 : Bool, (∃ es148 : LL, (∃ es149 : LL, (∃ n73 : Int, (∃ es150 : LL, (∃ es151 : LL, ((Fn Tryz.prog 91 [(TV.agg [(AV.fz (FV.sl 1 es)), (AV.fz (FV.sl 1 es1)), (AV.fz (FV.int .i64 x5))]), (TV.one (AV.fz (FV.sl 8 [[(FV.int .i64 n64), (FV.str s32), (FV.bool b42), (FV.sl 1 es132), (FV.sl 8 es133), (FV.int .i64 n65), (FV.sl 1 es134), (FV.sl 1 es135)], [(FV.int .i64 n68), (FV.str s34), (FV.bool b44), (FV.sl 1 es140), (FV.sl 8 es141), (FV.int .i64 n69), (FV.sl 1 es142), (FV.sl 1 es143)], [(FV.int .i64 n70), (FV.str s35), (FV.bool b45), (FV.sl 1 es144), (FV.sl 8 es145), (FV.int .i64 n71), (FV.sl 1 es146), (FV.sl 1 es147)]])))] [] (TV.agg [(AV.fz (FV.int .i64 n72)), (AV.fz (FV.str s36)), (AV.fz (FV.bool b46)), (AV.fz (FV.sl 1 es148)), (AV.fz (FV.sl 8 es149)), (AV.fz (FV.int .i64 n73)), (AV.fz (FV.sl 1 es150)), (AV.fz (FV.sl 1 es151))]) []) ∧ (∃ b47 : Bool, ((Fn Tryz.prog 57 [(TV.agg [(AV.fz (FV.int .i64 n72)), (AV.fz (FV.str s36)), (AV.fz (FV.bool b46)), (AV.fz (FV.sl 1 es148)), (AV.fz (FV.sl 8 es149)), (AV.fz (FV.int .i64 n73)), (AV.fz (FV.sl 1 es150)), (AV.fz (FV.sl 1 es151))])] [] (TV.one (AV.fz (FV.bool b47))) []) ∧ ((((Bool.not b47) = true) → (R (TV.tup [(true, [(AV.fz (FV.int .i64 0)), (AV.fz (FV.str (ByteArray.mk #[]))), (AV.fz (FV.bool false)), (AV.fz (FV.sl 1 ([] : LL))), (AV.fz (FV.sl 8 ([] : LL))), (AV.fz (FV.int .i64 0)), (AV.fz (FV.sl 1 ([] : LL))), (AV.fz (FV.sl 1 ([] : LL)))]), (false, [(AV.fz (FV.int .i64 6))])]) [])) ∧ (((Bool.not b47) = false) → (R (TV.tup [(true, [(AV.fz (FV.int .i64 n72)), (AV.fz (FV.str s36)), (AV.fz (FV.bool b46)), (AV.fz (FV.sl 1 es148)), (AV.fz (FV.sl 8 es149)), (AV.fz (FV.int .i64 n73)), (AV.fz (FV.sl 1 es150)), (AV.fz (FV.sl 1 es151))]), (false, [(AV.fz (FV.int .i64 0))])]) []))))))))))))))))))))))))))))))))))))))))))))))))))))
theorem rules_Rules_l1 {R : TV → List Ob → Prop} {x5 : Int} {l : LL} {i2 : Int} {i3 : Int} {es : LL} {es1 : LL} {o : LL} (h : rules_Rules_R1 R x5 l i2 i3 es es1 o) : rules_Rules_L1 R x5 l i2 i3 es es1 o :=
 LoopAt.by_tr (by kernel_rfl) (by kernel_rfl) h
def rules_Rules_H (R : TV → List Ob → Prop) (x0 : Int) (x1 : ByteArray) (x2 : Bool) (x3 : LL) (x4 : LL) (x5 : Int) (x6 : LL) (x7 : LL) (mark : Int) : Prop :=
 (∃ b39 : Bool, ((Fn Tryz.prog 57 [(TV.agg [(AV.fz (FV.int .i64 x0)), (AV.fz (FV.str x1)), (AV.fz (FV.bool x2)), (AV.fz (FV.sl 1 x3)), (AV.fz (FV.sl 8 x4)), (AV.fz (FV.int .i64 x5)), (AV.fz (FV.sl 1 x6)), (AV.fz (FV.sl 1 x7))])] [] (TV.one (AV.fz (FV.bool b39))) []) ∧ ((((Bool.not b39) = true) → (R (TV.tup [(true, [(AV.fz (FV.int .i64 0)), (AV.fz (FV.str (ByteArray.mk #[]))), (AV.fz (FV.bool false)), (AV.fz (FV.sl 1 ([] : LL))), (AV.fz (FV.sl 8 ([] : LL))), (AV.fz (FV.int .i64 0)), (AV.fz (FV.sl 1 ([] : LL))), (AV.fz (FV.sl 1 ([] : LL)))]), (false, [(AV.fz (FV.int .i64 2))])]) [])) ∧ (((Bool.not b39) = false) → ((((decide (mark < 1)) = true) → (R (TV.tup [(true, [(AV.fz (FV.int .i64 0)), (AV.fz (FV.str (ByteArray.mk #[]))), (AV.fz (FV.bool false)), (AV.fz (FV.sl 1 ([] : LL))), (AV.fz (FV.sl 8 ([] : LL))), (AV.fz (FV.int .i64 0)), (AV.fz (FV.sl 1 ([] : LL))), (AV.fz (FV.sl 1 ([] : LL)))]), (false, [(AV.fz (FV.int .i64 1))])]) [])) ∧ (((decide (mark < 1)) = false) → (∃ es124 : LL, (∃ es125 : LL, ((Fn Tryz.prog 30 [(TV.one (AV.fz (FV.int .i64 mark)))] [] (TV.agg [(AV.fz (FV.sl 1 es124)), (AV.fz (FV.sl 1 es125))]) []) ∧ (∃ es126 : LL, (∃ b40 : Bool, ((Fn Tryz.prog 89 [(TV.agg [(AV.fz (FV.int .i64 x0)), (AV.fz (FV.str x1)), (AV.fz (FV.bool x2)), (AV.fz (FV.sl 1 x3)), (AV.fz (FV.sl 8 x4)), (AV.fz (FV.int .i64 x5)), (AV.fz (FV.sl 1 x6)), (AV.fz (FV.sl 1 x7))]), (TV.one (AV.fz (FV.int .i64 (-1))))] [] (TV.tup [(false, [(AV.fz (FV.sl 8 es126))]), (false, [(AV.fz (FV.bool b40))])]) []) ∧ ((((Bool.not b40) = true) → (R (TV.tup [(true, [(AV.fz (FV.int .i64 0)), (AV.fz (FV.str (ByteArray.mk #[]))), (AV.fz (FV.bool false)), (AV.fz (FV.sl 1 ([] : LL))), (AV.fz (FV.sl 8 ([] : LL))), (AV.fz (FV.int .i64 0)), (AV.fz (FV.sl 1 ([] : LL))), (AV.fz (FV.sl 1 ([] : LL)))]), (false, [(AV.fz (FV.int .i64 7))])]) [])) ∧ (((Bool.not b40) = false) → ((((decide ((((List.length es126) : Nat) : Int) < 2)) = true) → (R (TV.tup [(true, [(AV.fz (FV.int .i64 0)), (AV.fz (FV.str (ByteArray.mk #[]))), (AV.fz (FV.bool false)), (AV.fz (FV.sl 1 ([] : LL))), (AV.fz (FV.sl 8 ([] : LL))), (AV.fz (FV.int .i64 0)), (AV.fz (FV.sl 1 ([] : LL))), (AV.fz (FV.sl 1 ([] : LL)))]), (false, [(AV.fz (FV.int .i64 7))])]) [])) ∧ (((decide ((((List.length es126) : Nat) : Int) < 2)) = false) → (((0 : Int) ≤ 1) ∧ (∃ n60 : Int, (∃ s30 : ByteArray, (∃ b41 : Bool, (∃ es127 : LL, (∃ es128 : LL, (∃ n61 : Int, (∃ es129 : LL, (∃ es130 : LL, (((es126)[(Int.toNat 1)]? = (some [(FV.int .i64 n60), (FV.str s30), (FV.bool b41), (FV.sl 1 es127), (FV.sl 8 es128), (FV.int .i64 n61), (FV.sl 1 es129), (FV.sl 1 es130)])) ∧ (∃ es131 : LL, (∃ b42 : Bool, ((Fn Tryz.prog 89 [(TV.agg [(AV.fz (FV.int .i64 n60)), (AV.fz (FV.str s30)), (AV.fz (FV.bool b41)), (AV.fz (FV.sl 1 es127)), (AV.fz (FV.sl 8 es128)), (AV.fz (FV.int .i64 n61)), (AV.fz (FV.sl 1 es129)), (AV.fz (FV.sl 1 es130))]), (TV.one (AV.fz (FV.int .i64 (-1))))] [] (TV.tup [(false, [(AV.fz (FV.sl 8 es131))]), (false, [(AV.fz (FV.bool b42))])]) []) ∧ ((((Bool.not b42) = true) → (R (TV.tup [(true, [(AV.fz (FV.int .i64 0)), (AV.fz (FV.str (ByteArray.mk #[]))), (AV.fz (FV.bool false)), (AV.fz (FV.sl 1 ([] : LL))), (AV.fz (FV.sl 8 ([] : LL))), (AV.fz (FV.int .i64 0)), (AV.fz (FV.sl 1 ([] : LL))), (AV.fz (FV.sl 1 ([] : LL)))]), (false, [(AV.fz (FV.int .i64 7))])]) [])) ∧ (((Bool.not b42) = false) → (rules_Rules_L0 R x5 es126 es131 (((List.length es131) : Nat) : Int) 0 es124 es125))))))))))))))))))))))))))))))))
theorem rules_Rules_fn (x0 : Int) (x1 : ByteArray) (x2 : Bool) (x3 : LL) (x4 : LL) (x5 : Int) (x6 : LL) (x7 : LL) (mark : Int) {r : TV} {h : List Ob} (H : rules_Rules_H (fun r' h' => r' = r ∧ h' = h) x0 x1 x2 x3 x4 x5 x6 x7 mark) : Fn Tryz.prog 51 [(TV.agg [(AV.fz (FV.int .i64 x0)), (AV.fz (FV.str x1)), (AV.fz (FV.bool x2)), (AV.fz (FV.sl 1 x3)), (AV.fz (FV.sl 8 x4)), (AV.fz (FV.int .i64 x5)), (AV.fz (FV.sl 1 x6)), (AV.fz (FV.sl 1 x7))]), (TV.one (AV.fz (FV.int .i64 mark)))] [] r h :=
 Fn.by_tr (M := (modeOf [] [])) (lv := rules_Rules_lv) (own := none) (F := Tryz.f51) (by kernel_rfl) (by kernel_rfl) (by first | decide | simp) (fun _ _ h => h) (by kernel_rfl) H
end
end Go.Proofs.YtljpbicmlcjpcaaGreatDoor.Ev
end
