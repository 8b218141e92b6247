/-
 Part of a claim: definitions and lemmas that its theorem leans on, packed by wip/tools/pack.py.
-/
import Derived.Test.YtljpbicmlcjpcaaGreatDoorZM3
set_option linter.unusedVariables false
set_option linter.unusedSimpArgs false
section
set_option linter.unusedVariables false
set_option maxRecDepth 100000
namespace Go.Proofs.YtljpbicmlcjpcaaGreatDoor.Ev
open Go
section
def read_Sound_lv : List Nat → Keep := lvOf []
def read_Sound_H (R : TV → List Ob → Prop) (d0 : Int) (d1 : ByteArray) (d2 : Bool) (d3 : List (List FV)) (d4 : List (List FV)) (d5 : Int) : Prop :=
 (∃ n1 : Int, ((Fn Tryz.prog 110 [(TV.agg [(AV.fz (FV.int .i64 d0)), (AV.fz (FV.str d1)), (AV.fz (FV.bool d2)), (AV.fz (FV.sl 1 d3)), (AV.fz (FV.sl 6 d4)), (AV.fz (FV.int .i64 d5))]), (TV.one (AV.fz (FV.int .i64 1))), (TV.one (AV.fz (FV.int .i64 8192)))] [] (TV.one (AV.fz (FV.int .i64 n1))) []) ∧ (R (TV.one (AV.fz (FV.bool (decide ((0 : Int) < n1))))) [])))
theorem read_Sound_fn (d0 : Int) (d1 : ByteArray) (d2 : Bool) (d3 : LL) (d4 : LL) (d5 : Int) {r : TV} {h : List Ob} (H : read_Sound_H (fun r' h' => r' = r ∧ h' = h) d0 d1 d2 d3 d4 d5) : Fn Tryz.prog 93 [(TV.agg [(AV.fz (FV.int .i64 d0)), (AV.fz (FV.str d1)), (AV.fz (FV.bool d2)), (AV.fz (FV.sl 1 d3)), (AV.fz (FV.sl 6 d4)), (AV.fz (FV.int .i64 d5))])] [] r h :=
 Fn.by_tr (M := (modeOf [] [])) (lv := read_Sound_lv) (own := none) (F := Tryz.f93) (by kernel_rfl) (by kernel_rfl) (by first | decide | simp) (fun _ _ h => h) (by kernel_rfl) H
def read_measure_lv : List Nat → Keep := lvOf [([0, 1, 0, 1, 1, 1, 1], ⟨1879048334, 0, [], false, false⟩)]
def read_measure_S0 (d0 : Int) (d1 : ByteArray) (d2 : Bool) (d3 : LL) (d4 : LL) (d5 : Int) (depth : Int) (room : Int) (n5 : Int) (i : Int) : St := (St.mk [TV.und, (TV.one (AV.fz (FV.int .i64 depth))), (TV.one (AV.fz (FV.int .i64 room))), (TV.one (AV.ptr 0 0 0 0)), TV.und, TV.und, TV.und, (TV.one (AV.fz (FV.int .i64 n5))), TV.und, TV.und, TV.und, TV.und, TV.und, TV.und, TV.und, TV.und, TV.und, TV.und, TV.und, TV.und, TV.und, TV.und, TV.und, TV.und, TV.und, TV.und, TV.und, TV.und, (TV.one (AV.fz (FV.sl 6 d4))), (TV.one (AV.fz (FV.int .i64 (((List.length d4) : Nat) : Int)))), (TV.one (AV.fz (FV.int .i64 i))), TV.und, TV.und, TV.und, TV.und, TV.und, TV.und, TV.und, TV.und, TV.und, TV.und, TV.und, TV.und, TV.und, TV.und, TV.und, TV.und, TV.und, TV.und, TV.und, TV.und, TV.und, TV.und, TV.und, TV.und, TV.und, TV.und, TV.und, TV.und, TV.und, TV.und, TV.und, TV.und, TV.und, TV.und, TV.und, TV.und, TV.und, TV.und, TV.und, TV.und, TV.und, TV.und] [(Ob.g 44 [(AV.fz (FV.int .i64 d0)), (AV.fz (FV.str d1)), (AV.fz (FV.bool d2)), (AV.fz (FV.sl 1 d3)), (AV.fz (FV.sl 6 d4)), (AV.fz (FV.int .i64 d5))])])
def read_measure_L0 (R : TV → List Ob → Prop) (d0 : Int) (d1 : ByteArray) (d2 : Bool) (d3 : LL) (d4 : LL) (d5 : Int) (depth : Int) (room : Int) (n5 : Int) (i : Int) : Prop := LoopAt Tryz.prog (modeOf [] []) read_measure_lv Tryz.f110 none R [1, 1, 1, 1, 0, 1, 0] (read_measure_S0 d0 d1 d2 d3 d4 d5 depth room n5 i)
def read_measure_R0 (R : TV → List Ob → Prop) (d0 : Int) (d1 : ByteArray) (d2 : Bool) (d3 : LL) (d4 : LL) (d5 : Int) (depth : Int) (room : Int) (n5 : Int) (i : Int) : Prop :=
 ((((decide (i < (((List.length d4) : Nat) : Int))) = true) → (((0 : Int) ≤ i) ∧ (∃ n11 : Int, (∃ s4 : ByteArray, (∃ b7 : Bool, (∃ es8 : LL, (∃ es9 : LL, (∃ n12 : Int, (((d4)[(Int.toNat i)]? = (some [(FV.int .i64 n11), (FV.str s4), (FV.bool b7), (FV.sl 1 es8), (FV.sl 6 es9), (FV.int .i64 n12)])) ∧ (∃ n13 : Int, ((Fn Tryz.prog 110 [(TV.agg [(AV.fz (FV.int .i64 n11)), (AV.fz (FV.str s4)), (AV.fz (FV.bool b7)), (AV.fz (FV.sl 1 es8)), (AV.fz (FV.sl 6 es9)), (AV.fz (FV.int .i64 n12))]), (TV.one (AV.fz (FV.int .i64 (IntKind.wrap .i64 (depth + 1))))), (TV.one (AV.fz (FV.int .i64 (IntKind.wrap .i64 (room - n5)))))] [] (TV.one (AV.fz (FV.int .i64 n13))) []) ∧ ((((decide (n13 < 0)) = true) → (R (TV.one (AV.fz (FV.int .i64 (-1)))) [])) ∧ (((decide (n13 < 0)) = false) → (read_measure_L0 R d0 d1 d2 d3 d4 d5 depth room (IntKind.wrap .i64 (n5 + n13)) (IntKind.wrap .i64 (i + 1)))))))))))))))) ∧ (((decide (i < (((List.length d4) : Nat) : Int))) = false) → (∃ b8 : Bool, ((Fn Tryz.prog 120 [(TV.agg [(AV.fz (FV.int .i64 d0)), (AV.fz (FV.str d1)), (AV.fz (FV.bool d2)), (AV.fz (FV.sl 1 d3)), (AV.fz (FV.sl 6 d4)), (AV.fz (FV.int .i64 d5))]), (TV.one (AV.fz (FV.bool false))), (TV.one (AV.fz (FV.bool false))), (TV.one (AV.fz (FV.bool true)))] [] (TV.one (AV.fz (FV.bool b8))) []) ∧ ((((Bool.not b8) = true) → (R (TV.one (AV.fz (FV.int .i64 (-1)))) [])) ∧ (((Bool.not b8) = false) → ((((d0 == 2) = true) → ((((decide ((((List.length d4) : Nat) : Int) < 2)) = true) → (R (TV.one (AV.fz (FV.int .i64 (-1)))) [])) ∧ (((decide ((((List.length d4) : Nat) : Int) < 2)) = false) → (((0 : Int) ≤ (IntKind.wrap .i64 ((((List.length d4) : Nat) : Int) - 1))) ∧ (∃ n14 : Int, (∃ s5 : ByteArray, (∃ b9 : Bool, (∃ es10 : LL, (∃ es11 : LL, (∃ n15 : Int, (((d4)[(Int.toNat (IntKind.wrap .i64 ((((List.length d4) : Nat) : Int) - 1)))]? = (some [(FV.int .i64 n14), (FV.str s5), (FV.bool b9), (FV.sl 1 es10), (FV.sl 6 es11), (FV.int .i64 n15)])) ∧ ((((n14 == 1) = true) → (R (TV.one (AV.fz (FV.int .i64 (-1)))) [])) ∧ (((n14 == 1) = false) → ((((n14 == 2) = true) → (R (TV.one (AV.fz (FV.int .i64 (-1)))) [])) ∧ (((n14 == 2) = false) → (R (TV.one (AV.fz (FV.int .i64 n5))) [])))))))))))))))) ∧ (((d0 == 2) = false) → (R (TV.one (AV.fz (FV.int .i64 n5))) [])))))))))
theorem read_measure_l0 {R : TV → List Ob → Prop} {d0 : Int} {d1 : ByteArray} {d2 : Bool} {d3 : LL} {d4 : LL} {d5 : Int} {depth : Int} {room : Int} {n5 : Int} {i : Int} (h : read_measure_R0 R d0 d1 d2 d3 d4 d5 depth room n5 i) : read_measure_L0 R d0 d1 d2 d3 d4 d5 depth room n5 i :=
 LoopAt.by_tr (by kernel_rfl) (by kernel_rfl) h
def read_measure_H (R : TV → List Ob → Prop) (d0 : Int) (d1 : ByteArray) (d2 : Bool) (d3 : LL) (d4 : LL) (d5 : Int) (depth : Int) (room : Int) : Prop :=
 ((((decide ((64 : Int) < depth)) = true) → (R (TV.one (AV.fz (FV.int .i64 (-1)))) [])) ∧ (((decide ((64 : Int) < depth)) = false) → ((((decide (room < 1)) = true) → (R (TV.one (AV.fz (FV.int .i64 (-1)))) [])) ∧ (((decide (room < 1)) = false) → ((((d0 == 1) = true) → (read_measure_L0 R d0 d1 d2 d3 d4 d5 depth room 1 0)) ∧ (((d0 == 1) = false) → ((((d0 == 3) = true) → (read_measure_L0 R d0 d1 d2 d3 d4 d5 depth room 1 0)) ∧ (((d0 == 3) = false) → ((((d0 == 2) = true) → (read_measure_L0 R d0 d1 d2 d3 d4 d5 depth room 1 0)) ∧ (((d0 == 2) = false) → (∃ b7 : Bool, ((Fn Tryz.prog 119 [(TV.agg [(AV.fz (FV.int .i64 d0)), (AV.fz (FV.str d1)), (AV.fz (FV.bool d2)), (AV.fz (FV.sl 1 d3)), (AV.fz (FV.sl 6 d4)), (AV.fz (FV.int .i64 d5))])] [] (TV.one (AV.fz (FV.bool b7))) []) ∧ ((((Bool.not b7) = true) → (R (TV.one (AV.fz (FV.int .i64 (-1)))) [])) ∧ (((Bool.not b7) = false) → (R (TV.one (AV.fz (FV.int .i64 1))) [])))))))))))))))
theorem read_measure_fn (d0 : Int) (d1 : ByteArray) (d2 : Bool) (d3 : LL) (d4 : LL) (d5 : Int) (depth : Int) (room : Int) {r : TV} {h : List Ob} (H : read_measure_H (fun r' h' => r' = r ∧ h' = h) d0 d1 d2 d3 d4 d5 depth room) : Fn Tryz.prog 110 [(TV.agg [(AV.fz (FV.int .i64 d0)), (AV.fz (FV.str d1)), (AV.fz (FV.bool d2)), (AV.fz (FV.sl 1 d3)), (AV.fz (FV.sl 6 d4)), (AV.fz (FV.int .i64 d5))]), (TV.one (AV.fz (FV.int .i64 depth))), (TV.one (AV.fz (FV.int .i64 room)))] [] r h :=
 Fn.by_tr (M := (modeOf [] [])) (lv := read_measure_lv) (own := none) (F := Tryz.f110) (by kernel_rfl) (by kernel_rfl) (by first | decide | simp) (fun _ _ h => h) (by kernel_rfl) H
def read_leaf_lv : List Nat → Keep := lvOf []
def read_leaf_H (R : TV → List Ob → Prop) (d0 : Int) (d1 : ByteArray) (d2 : Bool) (d3 : List (List FV)) (d4 : List (List FV)) (d5 : Int) : Prop :=
 ((((d0 == 4) = true) → (∃ n4 : Int, (∃ s1 : ByteArray, (∃ b11 : Bool, (∃ es2 : LL, (∃ es3 : LL, (∃ n5 : Int, (∃ b12 : Bool, ((Fn Tryz.prog 127 [(TV.one (AV.fz (FV.str d1)))] [] (TV.tup [(true, [(AV.fz (FV.int .i64 n4)), (AV.fz (FV.str s1)), (AV.fz (FV.bool b11)), (AV.fz (FV.sl 1 es2)), (AV.fz (FV.sl 6 es3)), (AV.fz (FV.int .i64 n5))]), (false, [(AV.fz (FV.bool b12))])]) []) ∧ (((b12 = true) → ((((n4 == 4) = true) → (∃ b13 : Bool, ((Fn Tryz.prog 120 [(TV.agg [(AV.fz (FV.int .i64 d0)), (AV.fz (FV.str d1)), (AV.fz (FV.bool d2)), (AV.fz (FV.sl 1 d3)), (AV.fz (FV.sl 6 d4)), (AV.fz (FV.int .i64 d5))]), (TV.one (AV.fz (FV.bool true))), (TV.one (AV.fz (FV.bool false))), (TV.one (AV.fz (FV.bool false)))] [] (TV.one (AV.fz (FV.bool b13))) []) ∧ (R (TV.one (AV.fz (FV.bool b13))) [])))) ∧ (((n4 == 4) = false) → (R (TV.one (AV.fz (FV.bool false))) [])))) ∧ ((b12 = false) → (R (TV.one (AV.fz (FV.bool false))) [])))))))))))) ∧ (((d0 == 4) = false) → ((((d0 == 5) = true) → (∃ n6 : Int, ((Fn Tryz.prog 128 [(TV.one (AV.fz (FV.str d1)))] [] (TV.one (AV.fz (FV.int .i64 n6))) []) ∧ ((((decide ((0 : Int) ≤ n6)) = true) → ((((decide (n6 ≤ 4096)) = true) → (∃ b14 : Bool, ((Fn Tryz.prog 120 [(TV.agg [(AV.fz (FV.int .i64 d0)), (AV.fz (FV.str d1)), (AV.fz (FV.bool d2)), (AV.fz (FV.sl 1 d3)), (AV.fz (FV.sl 6 d4)), (AV.fz (FV.int .i64 d5))]), (TV.one (AV.fz (FV.bool true))), (TV.one (AV.fz (FV.bool false))), (TV.one (AV.fz (FV.bool false)))] [] (TV.one (AV.fz (FV.bool b14))) []) ∧ (R (TV.one (AV.fz (FV.bool b14))) [])))) ∧ (((decide (n6 ≤ 4096)) = false) → (R (TV.one (AV.fz (FV.bool false))) [])))) ∧ (((decide ((0 : Int) ≤ n6)) = false) → (R (TV.one (AV.fz (FV.bool false))) [])))))) ∧ (((d0 == 5) = false) → ((((d0 == 6) = true) → (∃ n7 : Int, ((Fn Tryz.prog 128 [(TV.one (AV.fz (FV.str d1)))] [] (TV.one (AV.fz (FV.int .i64 n7))) []) ∧ ((((n7 == 1) = true) → (∃ b15 : Bool, ((Fn Tryz.prog 120 [(TV.agg [(AV.fz (FV.int .i64 d0)), (AV.fz (FV.str d1)), (AV.fz (FV.bool d2)), (AV.fz (FV.sl 1 d3)), (AV.fz (FV.sl 6 d4)), (AV.fz (FV.int .i64 d5))]), (TV.one (AV.fz (FV.bool true))), (TV.one (AV.fz (FV.bool false))), (TV.one (AV.fz (FV.bool false)))] [] (TV.one (AV.fz (FV.bool b15))) []) ∧ (R (TV.one (AV.fz (FV.bool b15))) [])))) ∧ (((n7 == 1) = false) → (R (TV.one (AV.fz (FV.bool false))) [])))))) ∧ (((d0 == 6) = false) → ((((d0 == 7) = true) → (∃ b16 : Bool, ((Fn Tryz.prog 129 [(TV.agg [(AV.fz (FV.bool d2)), (AV.fz (FV.sl 1 d3))])] [] (TV.one (AV.fz (FV.bool b16))) []) ∧ (((b16 = true) → (∃ b17 : Bool, ((Fn Tryz.prog 120 [(TV.agg [(AV.fz (FV.int .i64 d0)), (AV.fz (FV.str d1)), (AV.fz (FV.bool d2)), (AV.fz (FV.sl 1 d3)), (AV.fz (FV.sl 6 d4)), (AV.fz (FV.int .i64 d5))]), (TV.one (AV.fz (FV.bool false))), (TV.one (AV.fz (FV.bool true))), (TV.one (AV.fz (FV.bool false)))] [] (TV.one (AV.fz (FV.bool b17))) []) ∧ (R (TV.one (AV.fz (FV.bool b17))) [])))) ∧ ((b16 = false) → (R (TV.one (AV.fz (FV.bool false))) [])))))) ∧ (((d0 == 7) = false) → ((((d0 == 11) = true) → (∃ b18 : Bool, ((Fn Tryz.prog 120 [(TV.agg [(AV.fz (FV.int .i64 d0)), (AV.fz (FV.str d1)), (AV.fz (FV.bool d2)), (AV.fz (FV.sl 1 d3)), (AV.fz (FV.sl 6 d4)), (AV.fz (FV.int .i64 d5))]), (TV.one (AV.fz (FV.bool true))), (TV.one (AV.fz (FV.bool false))), (TV.one (AV.fz (FV.bool false)))] [] (TV.one (AV.fz (FV.bool b18))) []) ∧ (R (TV.one (AV.fz (FV.bool b18))) [])))) ∧ (((d0 == 11) = false) → ((((d0 == 8) = true) → (∃ b19 : Bool, ((Fn Tryz.prog 120 [(TV.agg [(AV.fz (FV.int .i64 d0)), (AV.fz (FV.str d1)), (AV.fz (FV.bool d2)), (AV.fz (FV.sl 1 d3)), (AV.fz (FV.sl 6 d4)), (AV.fz (FV.int .i64 d5))]), (TV.one (AV.fz (FV.bool false))), (TV.one (AV.fz (FV.bool false))), (TV.one (AV.fz (FV.bool false)))] [] (TV.one (AV.fz (FV.bool b19))) []) ∧ (R (TV.one (AV.fz (FV.bool b19))) [])))) ∧ (((d0 == 8) = false) → ((((d0 == 9) = true) → (∃ b20 : Bool, ((Fn Tryz.prog 120 [(TV.agg [(AV.fz (FV.int .i64 d0)), (AV.fz (FV.str d1)), (AV.fz (FV.bool d2)), (AV.fz (FV.sl 1 d3)), (AV.fz (FV.sl 6 d4)), (AV.fz (FV.int .i64 d5))]), (TV.one (AV.fz (FV.bool false))), (TV.one (AV.fz (FV.bool false))), (TV.one (AV.fz (FV.bool false)))] [] (TV.one (AV.fz (FV.bool b20))) []) ∧ (R (TV.one (AV.fz (FV.bool b20))) [])))) ∧ (((d0 == 9) = false) → ((((d0 == 10) = true) → (∃ b21 : Bool, ((Fn Tryz.prog 120 [(TV.agg [(AV.fz (FV.int .i64 d0)), (AV.fz (FV.str d1)), (AV.fz (FV.bool d2)), (AV.fz (FV.sl 1 d3)), (AV.fz (FV.sl 6 d4)), (AV.fz (FV.int .i64 d5))]), (TV.one (AV.fz (FV.bool false))), (TV.one (AV.fz (FV.bool false))), (TV.one (AV.fz (FV.bool false)))] [] (TV.one (AV.fz (FV.bool b21))) []) ∧ (R (TV.one (AV.fz (FV.bool b21))) [])))) ∧ (((d0 == 10) = false) → (R (TV.one (AV.fz (FV.bool false))) [])))))))))))))))))
theorem read_leaf_fn (d0 : Int) (d1 : ByteArray) (d2 : Bool) (d3 : LL) (d4 : LL) (d5 : Int) {r : TV} {h : List Ob} (H : read_leaf_H (fun r' h' => r' = r ∧ h' = h) d0 d1 d2 d3 d4 d5) : Fn Tryz.prog 119 [(TV.agg [(AV.fz (FV.int .i64 d0)), (AV.fz (FV.str d1)), (AV.fz (FV.bool d2)), (AV.fz (FV.sl 1 d3)), (AV.fz (FV.sl 6 d4)), (AV.fz (FV.int .i64 d5))])] [] r h :=
 Fn.by_tr (M := (modeOf [] [])) (lv := read_leaf_lv) (own := none) (F := Tryz.f119) (by kernel_rfl) (by kernel_rfl) (by first | decide | simp) (fun _ _ h => h) (by kernel_rfl) H
def read_plain_lv : List Nat → Keep := lvOf []
def read_plain_H (R : TV → List Ob → Prop) (d0 : Int) (d1 : ByteArray) (d2 : Bool) (d3 : LL) (d4 : LL) (d5 : Int) (text : Bool) (number : Bool) (list : Bool) : Prop :=
 ((((Bool.not d2) = true) → (((text = true) → (((number = true) → (((list = true) → (R (TV.one (AV.fz (FV.bool true))) [])) ∧ ((list = false) → (R (TV.one (AV.fz (FV.bool ((((List.length d4) : Nat) : Int) == 0)))) [])))) ∧ ((number = false) → (((((((List.length d3) : Nat) : Int) == 0) = true) → (((list = true) → (R (TV.one (AV.fz (FV.bool true))) [])) ∧ ((list = false) → (R (TV.one (AV.fz (FV.bool ((((List.length d4) : Nat) : Int) == 0)))) [])))) ∧ ((((((List.length d3) : Nat) : Int) == 0) = false) → (R (TV.one (AV.fz (FV.bool false))) [])))))) ∧ ((text = false) → (((((ByteArray.toList d1) == (ByteArray.toList (ByteArray.mk #[]))) = true) → (((number = true) → (((list = true) → (R (TV.one (AV.fz (FV.bool true))) [])) ∧ ((list = false) → (R (TV.one (AV.fz (FV.bool ((((List.length d4) : Nat) : Int) == 0)))) [])))) ∧ ((number = false) → (((((((List.length d3) : Nat) : Int) == 0) = true) → (((list = true) → (R (TV.one (AV.fz (FV.bool true))) [])) ∧ ((list = false) → (R (TV.one (AV.fz (FV.bool ((((List.length d4) : Nat) : Int) == 0)))) [])))) ∧ ((((((List.length d3) : Nat) : Int) == 0) = false) → (R (TV.one (AV.fz (FV.bool false))) [])))))) ∧ ((((ByteArray.toList d1) == (ByteArray.toList (ByteArray.mk #[]))) = false) → (R (TV.one (AV.fz (FV.bool false))) [])))))) ∧ (((Bool.not d2) = false) → (((text = true) → (((number = true) → (((list = true) → (R (TV.one (AV.fz (FV.bool true))) [])) ∧ ((list = false) → (R (TV.one (AV.fz (FV.bool ((((List.length d4) : Nat) : Int) == 0)))) [])))) ∧ ((number = false) → (R (TV.one (AV.fz (FV.bool false))) [])))) ∧ ((text = false) → (((((ByteArray.toList d1) == (ByteArray.toList (ByteArray.mk #[]))) = true) → (((number = true) → (((list = true) → (R (TV.one (AV.fz (FV.bool true))) [])) ∧ ((list = false) → (R (TV.one (AV.fz (FV.bool ((((List.length d4) : Nat) : Int) == 0)))) [])))) ∧ ((number = false) → (R (TV.one (AV.fz (FV.bool false))) [])))) ∧ ((((ByteArray.toList d1) == (ByteArray.toList (ByteArray.mk #[]))) = false) → (R (TV.one (AV.fz (FV.bool false))) [])))))))
theorem read_plain_fn (d0 : Int) (d1 : ByteArray) (d2 : Bool) (d3 : LL) (d4 : LL) (d5 : Int) (text : Bool) (number : Bool) (list : Bool) {r : TV} {h : List Ob} (H : read_plain_H (fun r' h' => r' = r ∧ h' = h) d0 d1 d2 d3 d4 d5 text number list) : Fn Tryz.prog 120 [(TV.agg [(AV.fz (FV.int .i64 d0)), (AV.fz (FV.str d1)), (AV.fz (FV.bool d2)), (AV.fz (FV.sl 1 d3)), (AV.fz (FV.sl 6 d4)), (AV.fz (FV.int .i64 d5))]), (TV.one (AV.fz (FV.bool text))), (TV.one (AV.fz (FV.bool number))), (TV.one (AV.fz (FV.bool list)))] [] r h :=
 Fn.by_tr (M := (modeOf [] [])) (lv := read_plain_lv) (own := none) (F := Tryz.f120) (by kernel_rfl) (by kernel_rfl) (by first | decide | simp) (fun _ _ h => h) (by kernel_rfl) H
def read_chars_lv : List Nat → Keep := lvOf []
def read_chars_H (R : TV → List Ob → Prop) (s : ByteArray) : Prop :=
 (∃ es1 : LL, (∃ n2 : Int, (∃ n3 : Int, ((Fn Tryz.prog 135 [(TV.one (AV.fz (FV.sl 1 (List.map (fun b3 => [(FV.int .u8 (((UInt8.toNat b3) : Nat) : Int))]) (Array.toList (ByteArray.data s))))))] [] (TV.tup [(false, [(AV.fz (FV.sl 1 es1))]), (false, [(AV.fz (FV.int .i64 n2))]), (false, [(AV.fz (FV.int .i64 n3))])]) []) ∧ ((((n3 != 0) = true) → (R (TV.one (AV.fz (FV.int .i64 (-1)))) [])) ∧ (((n3 != 0) = false) → (R (TV.one (AV.fz (FV.int .i64 (((List.length es1) : Nat) : Int)))) [])))))))
theorem read_chars_fn (s : ByteArray) {r : TV} {h : List Ob} (H : read_chars_H (fun r' h' => r' = r ∧ h' = h) s) : Fn Tryz.prog 128 [(TV.one (AV.fz (FV.str s)))] [] r h :=
 Fn.by_tr (M := (modeOf [] [])) (lv := read_chars_lv) (own := none) (F := Tryz.f128) (by kernel_rfl) (by kernel_rfl) (by first | decide | simp) (fun _ _ h => h) (by kernel_rfl) H
def token_Atom_lv : List Nat → Keep := lvOf []
def token_Atom_H (R : TV → List Ob → Prop) (s : ByteArray) : Prop :=
 (((((ByteArray.toList s) == (ByteArray.toList (ByteArray.mk #[35, 116]))) = true) → (R (TV.tup [(true, [(AV.fz (FV.int .i64 8)), (AV.fz (FV.str (ByteArray.mk #[]))), (AV.fz (FV.bool false)), (AV.fz (FV.sl 1 ([] : LL))), (AV.fz (FV.sl 6 ([] : LL))), (AV.fz (FV.int .i64 0))]), (false, [(AV.fz (FV.bool true))])]) [])) ∧ ((((ByteArray.toList s) == (ByteArray.toList (ByteArray.mk #[35, 116]))) = false) → (((((ByteArray.toList s) == (ByteArray.toList (ByteArray.mk #[35, 116, 114, 117, 101]))) = true) → (R (TV.tup [(true, [(AV.fz (FV.int .i64 8)), (AV.fz (FV.str (ByteArray.mk #[]))), (AV.fz (FV.bool false)), (AV.fz (FV.sl 1 ([] : LL))), (AV.fz (FV.sl 6 ([] : LL))), (AV.fz (FV.int .i64 0))]), (false, [(AV.fz (FV.bool true))])]) [])) ∧ ((((ByteArray.toList s) == (ByteArray.toList (ByteArray.mk #[35, 116, 114, 117, 101]))) = false) → (((((ByteArray.toList s) == (ByteArray.toList (ByteArray.mk #[35, 102]))) = true) → (R (TV.tup [(true, [(AV.fz (FV.int .i64 9)), (AV.fz (FV.str (ByteArray.mk #[]))), (AV.fz (FV.bool false)), (AV.fz (FV.sl 1 ([] : LL))), (AV.fz (FV.sl 6 ([] : LL))), (AV.fz (FV.int .i64 0))]), (false, [(AV.fz (FV.bool true))])]) [])) ∧ ((((ByteArray.toList s) == (ByteArray.toList (ByteArray.mk #[35, 102]))) = false) → (((((ByteArray.toList s) == (ByteArray.toList (ByteArray.mk #[35, 102, 97, 108, 115, 101]))) = true) → (R (TV.tup [(true, [(AV.fz (FV.int .i64 9)), (AV.fz (FV.str (ByteArray.mk #[]))), (AV.fz (FV.bool false)), (AV.fz (FV.sl 1 ([] : LL))), (AV.fz (FV.sl 6 ([] : LL))), (AV.fz (FV.int .i64 0))]), (false, [(AV.fz (FV.bool true))])]) [])) ∧ ((((ByteArray.toList s) == (ByteArray.toList (ByteArray.mk #[35, 102, 97, 108, 115, 101]))) = false) → (∃ b12 : Bool, (∃ es2 : LL, (∃ b13 : Bool, ((Fn Tryz.prog 134 [(TV.one (AV.fz (FV.str s)))] [] (TV.tup [(true, [(AV.fz (FV.bool b12)), (AV.fz (FV.sl 1 es2))]), (false, [(AV.fz (FV.bool b13))])]) []) ∧ (((b13 = true) → (R (TV.tup [(true, [(AV.fz (FV.int .i64 7)), (AV.fz (FV.str (ByteArray.mk #[]))), (AV.fz (FV.bool b12)), (AV.fz (FV.sl 1 es2)), (AV.fz (FV.sl 6 ([] : LL))), (AV.fz (FV.int .i64 0))]), (false, [(AV.fz (FV.bool true))])]) [])) ∧ ((b13 = false) → (∃ es3 : LL, (∃ n2 : Int, (∃ n3 : Int, ((Fn Tryz.prog 135 [(TV.one (AV.fz (FV.sl 1 (List.map (fun b15 => [(FV.int .u8 (((UInt8.toNat b15) : Nat) : Int))]) (Array.toList (ByteArray.data s))))))] [] (TV.tup [(false, [(AV.fz (FV.sl 1 es3))]), (false, [(AV.fz (FV.int .i64 n2))]), (false, [(AV.fz (FV.int .i64 n3))])]) []) ∧ (∃ b16 : Bool, ((Fn Tryz.prog 136 [(TV.one (AV.fz (FV.str s))), (TV.one (AV.fz (FV.str (ByteArray.mk #[43]))))] [] (TV.one (AV.fz (FV.bool b16))) []) ∧ (((b16 = true) → (((((ByteArray.toList s) == (ByteArray.toList (ByteArray.mk #[]))) = true) → (R (TV.tup [(true, [(AV.fz (FV.int .i64 0)), (AV.fz (FV.str (ByteArray.mk #[]))), (AV.fz (FV.bool false)), (AV.fz (FV.sl 1 ([] : LL))), (AV.fz (FV.sl 6 ([] : LL))), (AV.fz (FV.int .i64 0))]), (false, [(AV.fz (FV.bool false))])]) [])) ∧ ((((ByteArray.toList s) == (ByteArray.toList (ByteArray.mk #[]))) = false) → (((((ByteArray.toList s) == (ByteArray.toList (ByteArray.mk #[46]))) = true) → (R (TV.tup [(true, [(AV.fz (FV.int .i64 0)), (AV.fz (FV.str (ByteArray.mk #[]))), (AV.fz (FV.bool false)), (AV.fz (FV.sl 1 ([] : LL))), (AV.fz (FV.sl 6 ([] : LL))), (AV.fz (FV.int .i64 0))]), (false, [(AV.fz (FV.bool false))])]) [])) ∧ ((((ByteArray.toList s) == (ByteArray.toList (ByteArray.mk #[46]))) = false) → ((((decide ((64 : Int) < (((ByteArray.size s) : Nat) : Int))) = true) → (R (TV.tup [(true, [(AV.fz (FV.int .i64 0)), (AV.fz (FV.str (ByteArray.mk #[]))), (AV.fz (FV.bool false)), (AV.fz (FV.sl 1 ([] : LL))), (AV.fz (FV.sl 6 ([] : LL))), (AV.fz (FV.int .i64 0))]), (false, [(AV.fz (FV.bool false))])]) [])) ∧ (((decide ((64 : Int) < (((ByteArray.size s) : Nat) : Int))) = false) → ((((n3 != 0) = true) → (R (TV.tup [(true, [(AV.fz (FV.int .i64 0)), (AV.fz (FV.str (ByteArray.mk #[]))), (AV.fz (FV.bool false)), (AV.fz (FV.sl 1 ([] : LL))), (AV.fz (FV.sl 6 ([] : LL))), (AV.fz (FV.int .i64 0))]), (false, [(AV.fz (FV.bool false))])]) [])) ∧ (((n3 != 0) = false) → (∃ b17 : Bool, ((Fn Tryz.prog 137 [(TV.one (AV.fz (FV.sl 1 es3))), (TV.one (AV.fz (FV.fn 138 [])))] [] (TV.one (AV.fz (FV.bool b17))) []) ∧ (((b17 = true) → (R (TV.tup [(true, [(AV.fz (FV.int .i64 0)), (AV.fz (FV.str (ByteArray.mk #[]))), (AV.fz (FV.bool false)), (AV.fz (FV.sl 1 ([] : LL))), (AV.fz (FV.sl 6 ([] : LL))), (AV.fz (FV.int .i64 0))]), (false, [(AV.fz (FV.bool false))])]) [])) ∧ ((b17 = false) → (((0 : Int) ≤ 0) ∧ (∃ c2 : UInt8, ((((ByteArray.data s))[(Int.toNat 0)]? = (some c2)) ∧ (((((((UInt8.toNat c2) : Nat) : Int) == 35) = true) → (R (TV.tup [(true, [(AV.fz (FV.int .i64 0)), (AV.fz (FV.str (ByteArray.mk #[]))), (AV.fz (FV.bool false)), (AV.fz (FV.sl 1 ([] : LL))), (AV.fz (FV.sl 6 ([] : LL))), (AV.fz (FV.int .i64 0))]), (false, [(AV.fz (FV.bool false))])]) [])) ∧ ((((((UInt8.toNat c2) : Nat) : Int) == 35) = false) → (∃ b18 : Bool, ((Fn Tryz.prog 139 [(TV.one (AV.fz (FV.str s))), (TV.one (AV.fz (FV.int .i64 0)))] [] (TV.one (AV.fz (FV.bool b18))) []) ∧ (((b18 = true) → (R (TV.tup [(true, [(AV.fz (FV.int .i64 0)), (AV.fz (FV.str (ByteArray.mk #[]))), (AV.fz (FV.bool false)), (AV.fz (FV.sl 1 ([] : LL))), (AV.fz (FV.sl 6 ([] : LL))), (AV.fz (FV.int .i64 0))]), (false, [(AV.fz (FV.bool false))])]) [])) ∧ ((b18 = false) → (∃ b19 : Bool, ((Fn Tryz.prog 139 [(TV.one (AV.fz (FV.str s))), (TV.one (AV.fz (FV.int .i64 1)))] [] (TV.one (AV.fz (FV.bool b19))) []) ∧ (((b19 = true) → (R (TV.tup [(true, [(AV.fz (FV.int .i64 0)), (AV.fz (FV.str (ByteArray.mk #[]))), (AV.fz (FV.bool false)), (AV.fz (FV.sl 1 ([] : LL))), (AV.fz (FV.sl 6 ([] : LL))), (AV.fz (FV.int .i64 0))]), (false, [(AV.fz (FV.bool false))])]) [])) ∧ ((b19 = false) → (R (TV.tup [(true, [(AV.fz (FV.int .i64 4)), (AV.fz (FV.str s)), (AV.fz (FV.bool false)), (AV.fz (FV.sl 1 ([] : LL))), (AV.fz (FV.sl 6 ([] : LL))), (AV.fz (FV.int .i64 0))]), (false, [(AV.fz (FV.bool true))])]) []))))))))))))))))))))))))))) ∧ ((b16 = false) → (∃ b20 : Bool, ((Fn Tryz.prog 136 [(TV.one (AV.fz (FV.str s))), (TV.one (AV.fz (FV.str (ByteArray.mk #[45]))))] [] (TV.one (AV.fz (FV.bool b20))) []) ∧ (((((ByteArray.toList s) == (ByteArray.toList (ByteArray.mk #[]))) = true) → (R (TV.tup [(true, [(AV.fz (FV.int .i64 0)), (AV.fz (FV.str (ByteArray.mk #[]))), (AV.fz (FV.bool false)), (AV.fz (FV.sl 1 ([] : LL))), (AV.fz (FV.sl 6 ([] : LL))), (AV.fz (FV.int .i64 0))]), (false, [(AV.fz (FV.bool false))])]) [])) ∧ ((((ByteArray.toList s) == (ByteArray.toList (ByteArray.mk #[]))) = false) → (((((ByteArray.toList s) == (ByteArray.toList (ByteArray.mk #[46]))) = true) → (R (TV.tup [(true, [(AV.fz (FV.int .i64 0)), (AV.fz (FV.str (ByteArray.mk #[]))), (AV.fz (FV.bool false)), (AV.fz (FV.sl 1 ([] : LL))), (AV.fz (FV.sl 6 ([] : LL))), (AV.fz (FV.int .i64 0))]), (false, [(AV.fz (FV.bool false))])]) [])) ∧ ((((ByteArray.toList s) == (ByteArray.toList (ByteArray.mk #[46]))) = false) → ((((decide ((64 : Int) < (((ByteArray.size s) : Nat) : Int))) = true) → (R (TV.tup [(true, [(AV.fz (FV.int .i64 0)), (AV.fz (FV.str (ByteArray.mk #[]))), (AV.fz (FV.bool false)), (AV.fz (FV.sl 1 ([] : LL))), (AV.fz (FV.sl 6 ([] : LL))), (AV.fz (FV.int .i64 0))]), (false, [(AV.fz (FV.bool false))])]) [])) ∧ (((decide ((64 : Int) < (((ByteArray.size s) : Nat) : Int))) = false) → ((((n3 != 0) = true) → (R (TV.tup [(true, [(AV.fz (FV.int .i64 0)), (AV.fz (FV.str (ByteArray.mk #[]))), (AV.fz (FV.bool false)), (AV.fz (FV.sl 1 ([] : LL))), (AV.fz (FV.sl 6 ([] : LL))), (AV.fz (FV.int .i64 0))]), (false, [(AV.fz (FV.bool false))])]) [])) ∧ (((n3 != 0) = false) → (∃ b21 : Bool, ((Fn Tryz.prog 137 [(TV.one (AV.fz (FV.sl 1 es3))), (TV.one (AV.fz (FV.fn 138 [])))] [] (TV.one (AV.fz (FV.bool b21))) []) ∧ (((b21 = true) → (R (TV.tup [(true, [(AV.fz (FV.int .i64 0)), (AV.fz (FV.str (ByteArray.mk #[]))), (AV.fz (FV.bool false)), (AV.fz (FV.sl 1 ([] : LL))), (AV.fz (FV.sl 6 ([] : LL))), (AV.fz (FV.int .i64 0))]), (false, [(AV.fz (FV.bool false))])]) [])) ∧ ((b21 = false) → (((0 : Int) ≤ 0) ∧ (∃ c3 : UInt8, ((((ByteArray.data s))[(Int.toNat 0)]? = (some c3)) ∧ (((((((UInt8.toNat c3) : Nat) : Int) == 35) = true) → (R (TV.tup [(true, [(AV.fz (FV.int .i64 0)), (AV.fz (FV.str (ByteArray.mk #[]))), (AV.fz (FV.bool false)), (AV.fz (FV.sl 1 ([] : LL))), (AV.fz (FV.sl 6 ([] : LL))), (AV.fz (FV.int .i64 0))]), (false, [(AV.fz (FV.bool false))])]) [])) ∧ ((((((UInt8.toNat c3) : Nat) : Int) == 35) = false) → (∃ b22 : Bool, ((Fn Tryz.prog 139 [(TV.one (AV.fz (FV.str s))), (TV.one (AV.fz (FV.int .i64 0)))] [] (TV.one (AV.fz (FV.bool b22))) []) ∧ (((b22 = true) → (R (TV.tup [(true, [(AV.fz (FV.int .i64 0)), (AV.fz (FV.str (ByteArray.mk #[]))), (AV.fz (FV.bool false)), (AV.fz (FV.sl 1 ([] : LL))), (AV.fz (FV.sl 6 ([] : LL))), (AV.fz (FV.int .i64 0))]), (false, [(AV.fz (FV.bool false))])]) [])) ∧ ((b22 = false) → (((b20 = true) → (∃ b23 : Bool, ((Fn Tryz.prog 139 [(TV.one (AV.fz (FV.str s))), (TV.one (AV.fz (FV.int .i64 1)))] [] (TV.one (AV.fz (FV.bool b23))) []) ∧ (((b23 = true) → (R (TV.tup [(true, [(AV.fz (FV.int .i64 0)), (AV.fz (FV.str (ByteArray.mk #[]))), (AV.fz (FV.bool false)), (AV.fz (FV.sl 1 ([] : LL))), (AV.fz (FV.sl 6 ([] : LL))), (AV.fz (FV.int .i64 0))]), (false, [(AV.fz (FV.bool false))])]) [])) ∧ ((b23 = false) → (R (TV.tup [(true, [(AV.fz (FV.int .i64 4)), (AV.fz (FV.str s)), (AV.fz (FV.bool false)), (AV.fz (FV.sl 1 ([] : LL))), (AV.fz (FV.sl 6 ([] : LL))), (AV.fz (FV.int .i64 0))]), (false, [(AV.fz (FV.bool true))])]) [])))))) ∧ ((b20 = false) → (R (TV.tup [(true, [(AV.fz (FV.int .i64 4)), (AV.fz (FV.str s)), (AV.fz (FV.bool false)), (AV.fz (FV.sl 1 ([] : LL))), (AV.fz (FV.sl 6 ([] : LL))), (AV.fz (FV.int .i64 0))]), (false, [(AV.fz (FV.bool true))])]) []))))))))))))))))))))))))))))))))))))))))))))))))
theorem token_Atom_fn (s : ByteArray) {r : TV} {h : List Ob} (H : token_Atom_H (fun r' h' => r' = r ∧ h' = h) s) : Fn Tryz.prog 127 [(TV.one (AV.fz (FV.str s)))] [] r h :=
 Fn.by_tr (M := (modeOf [] [])) (lv := token_Atom_lv) (own := none) (F := Tryz.f127) (by kernel_rfl) (by kernel_rfl) (by first | decide | simp) (fun _ _ h => h) (by kernel_rfl) H
def token_digit_lv : List Nat → Keep := lvOf []
def token_digit_H (R : TV → List Ob → Prop) (s : ByteArray) (at_ : Int) : Prop :=
 ((((decide (at_ < (((ByteArray.size s) : Nat) : Int))) = true) → (((0 : Int) ≤ at_) ∧ (∃ c2 : UInt8, ((((ByteArray.data s))[(Int.toNat at_)]? = (some c2)) ∧ ((((decide ((48 : Int) ≤ (((UInt8.toNat c2) : Nat) : Int))) = true) → (((0 : Int) ≤ at_) ∧ (∃ c3 : UInt8, ((((ByteArray.data s))[(Int.toNat at_)]? = (some c3)) ∧ (R (TV.one (AV.fz (FV.bool (decide ((((UInt8.toNat c3) : Nat) : Int) ≤ 57))))) []))))) ∧ (((decide ((48 : Int) ≤ (((UInt8.toNat c2) : Nat) : Int))) = false) → (R (TV.one (AV.fz (FV.bool false))) []))))))) ∧ (((decide (at_ < (((ByteArray.size s) : Nat) : Int))) = false) → (R (TV.one (AV.fz (FV.bool false))) [])))
theorem token_digit_fn (s : ByteArray) (at_ : Int) {r : TV} {h : List Ob} (H : token_digit_H (fun r' h' => r' = r ∧ h' = h) s at_) : Fn Tryz.prog 139 [(TV.one (AV.fz (FV.str s))), (TV.one (AV.fz (FV.int .i64 at_)))] [] r h :=
 Fn.by_tr (M := (modeOf [] [])) (lv := token_digit_lv) (own := none) (F := Tryz.f139) (by kernel_rfl) (by kernel_rfl) (by first | decide | simp) (fun _ _ h => h) (by kernel_rfl) H
def utf_Decode_lv : List Nat → Keep := lvOf [([0, 0, 1, 1], ⟨13, 0, [], false, false⟩)]
def utf_Decode_S0 (b : LL) (at_ : Int) (o : LL) : St := (St.mk [(TV.one (AV.fz (FV.sl 1 b))), TV.und, (TV.one (AV.ofl 1 0)), (TV.one (AV.fz (FV.int .i64 at_))), TV.und, TV.und, TV.und, TV.und, TV.und, TV.und, TV.und, TV.und, TV.und, TV.und, TV.und, TV.und, TV.und, TV.und, TV.und, TV.und, TV.und, TV.und, TV.und, TV.und, TV.und, TV.und, TV.und, TV.und, TV.und, TV.und, TV.und, TV.und, TV.und, TV.und, TV.und, TV.und, TV.und] [(Ob.f 0 1 o)])
def utf_Decode_L0 (R : TV → List Ob → Prop) (b : LL) (at_ : Int) (o : LL) : Prop := LoopAt Tryz.prog (modeOf [] []) utf_Decode_lv Tryz.f135 none R [1, 1, 0, 0] (utf_Decode_S0 b at_ o)
def utf_Decode_R0 (R : TV → List Ob → Prop) (b : List (List FV)) (at_ : Int) (o : List (List FV)) : Prop :=
 ((((decide (at_ < (((List.length b) : Nat) : Int))) = true) → ((((0 : Int) ≤ at_) ∧ (at_ ≤ (((List.length b) : Nat) : Int))) ∧ (∃ n4 : Int, (∃ n5 : Int, ((Fn Tryz.prog 148 [(TV.one (AV.fz (FV.sl 1 (List.drop (Int.toNat at_) b))))] [] (TV.tup [(false, [(AV.fz (FV.int .i32 n4))]), (false, [(AV.fz (FV.int .i64 n5))])]) []) ∧ ((((n4 == 65533) = true) → ((((decide (n5 < 2)) = true) → (R (TV.tup [(false, [(AV.fz (FV.sl 1 ([] : LL)))]), (false, [(AV.fz (FV.int .i64 at_))]), (false, [(AV.fz (FV.int .i64 4))])]) [])) ∧ (((decide (n5 < 2)) = false) → (((((List.length o) + (List.length [[(FV.int .i64 (IntKind.wrap .i64 n4))]])) * 8) ≤ 220000000000000) ∧ (utf_Decode_L0 R b (IntKind.wrap .i64 (at_ + n5)) (o ++ [[(FV.int .i64 (IntKind.wrap .i64 n4))]])))))) ∧ (((n4 == 65533) = false) → (((((List.length o) + (List.length [[(FV.int .i64 (IntKind.wrap .i64 n4))]])) * 8) ≤ 220000000000000) ∧ (utf_Decode_L0 R b (IntKind.wrap .i64 (at_ + n5)) (o ++ [[(FV.int .i64 (IntKind.wrap .i64 n4))]])))))))))) ∧ (((decide (at_ < (((List.length b) : Nat) : Int))) = false) → (R (TV.tup [(false, [(AV.fz (FV.sl 1 o))]), (false, [(AV.fz (FV.int .i64 0))]), (false, [(AV.fz (FV.int .i64 0))])]) [])))
theorem utf_Decode_l0 {R : TV → List Ob → Prop} {b : LL} {at_ : Int} {o : LL} (h : utf_Decode_R0 R b at_ o) : utf_Decode_L0 R b at_ o :=
 LoopAt.by_tr (by kernel_rfl) (by kernel_rfl) h
def utf_Decode_H (R : TV → List Ob → Prop) (b : List (List FV)) : Prop :=
 ((((decide ((65536 : Int) < (((List.length b) : Nat) : Int))) = true) → (R (TV.tup [(false, [(AV.fz (FV.sl 1 ([] : LL)))]), (false, [(AV.fz (FV.int .i64 0))]), (false, [(AV.fz (FV.int .i64 6))])]) [])) ∧ (((decide ((65536 : Int) < (((List.length b) : Nat) : Int))) = false) → (utf_Decode_L0 R b 0 ([] : LL))))
theorem utf_Decode_fn (b : LL) {r : TV} {h : List Ob} (H : utf_Decode_H (fun r' h' => r' = r ∧ h' = h) b) : Fn Tryz.prog 135 [(TV.one (AV.fz (FV.sl 1 b)))] [] r h :=
 Fn.by_tr (M := (modeOf [] [])) (lv := utf_Decode_lv) (own := none) (F := Tryz.f135) (by kernel_rfl) (by kernel_rfl) (by first | decide | simp) (fun _ _ h => h) (by kernel_rfl) H
def utf_Ends_lv : List Nat → Keep := lvOf []
def utf_Ends_H (R : TV → List Ob → Prop) (c : Int) : Prop :=
 (∃ b1 : Bool, ((Fn Tryz.prog 151 [(TV.one (AV.fz (FV.int .i64 c)))] [] (TV.one (AV.fz (FV.bool b1))) []) ∧ (((b1 = true) → (R (TV.one (AV.fz (FV.bool true))) [])) ∧ ((b1 = false) → ((((decide ((0 : Int) < c)) = true) → ((((decide (c < 128)) = true) → (∃ n1 : Int, ((Fn Tryz.prog 152 [(TV.one (AV.fz (FV.str (ByteArray.mk #[40, 41, 59, 34, 39, 96, 44])))), (TV.one (AV.fz (FV.int .u8 (IntKind.wrap .u8 c))))] [] (TV.one (AV.fz (FV.int .i64 n1))) []) ∧ (R (TV.one (AV.fz (FV.bool (decide ((0 : Int) ≤ n1))))) [])))) ∧ (((decide (c < 128)) = false) → (R (TV.one (AV.fz (FV.bool false))) [])))) ∧ (((decide ((0 : Int) < c)) = false) → (R (TV.one (AV.fz (FV.bool false))) [])))))))
theorem utf_Ends_fn (c : Int) {r : TV} {h : List Ob} (H : utf_Ends_H (fun r' h' => r' = r ∧ h' = h) c) : Fn Tryz.prog 138 [(TV.one (AV.fz (FV.int .i64 c)))] [] r h :=
 Fn.by_tr (M := (modeOf [] [])) (lv := utf_Ends_lv) (own := none) (F := Tryz.f138) (by kernel_rfl) (by kernel_rfl) (by first | decide | simp) (fun _ _ h => h) (by kernel_rfl) H
def utf_Blank_lv : List Nat → Keep := lvOf []
def utf_Blank_H (R : TV → List Ob → Prop) (c : Int) : Prop :=
 ((((c == 9) = true) → (R (TV.one (AV.fz (FV.bool true))) [])) ∧ (((c == 9) = false) → ((((c == 10) = true) → (R (TV.one (AV.fz (FV.bool true))) [])) ∧ (((c == 10) = false) → ((((c == 13) = true) → (R (TV.one (AV.fz (FV.bool true))) [])) ∧ (((c == 13) = false) → (R (TV.one (AV.fz (FV.bool (c == 32)))) [])))))))
theorem utf_Blank_fn (c : Int) {r : TV} {h : List Ob} (H : utf_Blank_H (fun r' h' => r' = r ∧ h' = h) c) : Fn Tryz.prog 151 [(TV.one (AV.fz (FV.int .i64 c)))] [] r h :=
 Fn.by_tr (M := (modeOf [] [])) (lv := utf_Blank_lv) (own := none) (F := Tryz.f151) (by kernel_rfl) (by kernel_rfl) (by first | decide | simp) (fun _ _ h => h) (by kernel_rfl) H
end
section
def ref02_Sound_lv : List Nat → Keep := lvOf []
def ref02_Sound_H (R : TV → List Ob → Prop) (d0 : Int) (d1 : ByteArray) (d2 : Bool) (d3 : List (List FV)) (d4 : List (List FV)) (d5 : Int) : Prop :=
 (∃ n1 : Int, ((Fn Tryz.prog 102 [(TV.agg [(AV.fz (FV.int .i64 d0)), (AV.fz (FV.str d1)), (AV.fz (FV.bool d2)), (AV.fz (FV.sl 1 d3)), (AV.fz (FV.sl 6 d4)), (AV.fz (FV.int .i64 d5))]), (TV.one (AV.fz (FV.int .i64 1))), (TV.one (AV.fz (FV.int .i64 8192)))] [] (TV.one (AV.fz (FV.int .i64 n1))) []) ∧ (R (TV.one (AV.fz (FV.bool (decide (n1 ≤ 8192))))) [])))
theorem ref02_Sound_fn (d0 : Int) (d1 : ByteArray) (d2 : Bool) (d3 : LL) (d4 : LL) (d5 : Int) {r : TV} {h : List Ob} (H : ref02_Sound_H (fun r' h' => r' = r ∧ h' = h) d0 d1 d2 d3 d4 d5) : Fn Tryz.prog 69 [(TV.agg [(AV.fz (FV.int .i64 d0)), (AV.fz (FV.str d1)), (AV.fz (FV.bool d2)), (AV.fz (FV.sl 1 d3)), (AV.fz (FV.sl 6 d4)), (AV.fz (FV.int .i64 d5))])] [] r h :=
 Fn.by_tr (M := (modeOf [] [])) (lv := ref02_Sound_lv) (own := none) (F := Tryz.f69) (by kernel_rfl) (by kernel_rfl) (by first | decide | simp) (fun _ _ h => h) (by kernel_rfl) H
def ref02_Others_lv : List Nat → Keep := lvOf [([0, 1, 0, 1], ⟨10, 0, [], false, false⟩)]
def ref02_Others_S0 (d0 : Int) (d1 : ByteArray) (d2 : Bool) (d3 : LL) (d4 : LL) (d5 : Int) (i : Int) : St := (St.mk [TV.und, (TV.one (AV.ptr 0 0 0 0)), TV.und, (TV.one (AV.fz (FV.int .i64 i))), TV.und, TV.und, TV.und, TV.und, TV.und, TV.und, TV.und, TV.und, TV.und, TV.und, TV.und, TV.und, TV.und, TV.und, TV.und, TV.und] [(Ob.g 44 [(AV.fz (FV.int .i64 d0)), (AV.fz (FV.str d1)), (AV.fz (FV.bool d2)), (AV.fz (FV.sl 1 d3)), (AV.fz (FV.sl 6 d4)), (AV.fz (FV.int .i64 d5))])])
def ref02_Others_L0 (R : TV → List Ob → Prop) (d0 : Int) (d1 : ByteArray) (d2 : Bool) (d3 : LL) (d4 : LL) (d5 : Int) (i : Int) : Prop := LoopAt Tryz.prog (modeOf [] []) ref02_Others_lv Tryz.f70 none R [1, 0, 1, 0] (ref02_Others_S0 d0 d1 d2 d3 d4 d5 i)
def ref02_Others_R0 (R : TV → List Ob → Prop) (d0 : Int) (d1 : ByteArray) (d2 : Bool) (d3 : LL) (d4 : LL) (d5 : Int) (i : Int) : Prop :=
 ((((decide (i < (((List.length d4) : Nat) : Int))) = true) → (((0 : Int) ≤ i) ∧ (∃ n4 : Int, (∃ s2 : ByteArray, (∃ b4 : Bool, (∃ es4 : LL, (∃ es5 : LL, (∃ n5 : Int, (((d4)[(Int.toNat i)]? = (some [(FV.int .i64 n4), (FV.str s2), (FV.bool b4), (FV.sl 1 es4), (FV.sl 6 es5), (FV.int .i64 n5)])) ∧ (∃ b5 : Bool, ((Fn Tryz.prog 70 [(TV.agg [(AV.fz (FV.int .i64 n4)), (AV.fz (FV.str s2)), (AV.fz (FV.bool b4)), (AV.fz (FV.sl 1 es4)), (AV.fz (FV.sl 6 es5)), (AV.fz (FV.int .i64 n5))])] [] (TV.one (AV.fz (FV.bool b5))) []) ∧ (((b5 = true) → (R (TV.one (AV.fz (FV.bool true))) [])) ∧ ((b5 = false) → (ref02_Others_L0 R d0 d1 d2 d3 d4 d5 (IntKind.wrap .i64 (i + 1)))))))))))))))) ∧ (((decide (i < (((List.length d4) : Nat) : Int))) = false) → (R (TV.one (AV.fz (FV.bool (d0 == 11)))) [])))
theorem ref02_Others_l0 {R : TV → List Ob → Prop} {d0 : Int} {d1 : ByteArray} {d2 : Bool} {d3 : LL} {d4 : LL} {d5 : Int} {i : Int} (h : ref02_Others_R0 R d0 d1 d2 d3 d4 d5 i) : ref02_Others_L0 R d0 d1 d2 d3 d4 d5 i :=
 LoopAt.by_tr (by kernel_rfl) (by kernel_rfl) h
def ref02_Others_H (R : TV → List Ob → Prop) (d0 : Int) (d1 : ByteArray) (d2 : Bool) (d3 : List (List FV)) (d4 : List (List FV)) (d5 : Int) : Prop :=
 (ref02_Others_L0 R d0 d1 d2 d3 d4 d5 0)
theorem ref02_Others_fn (d0 : Int) (d1 : ByteArray) (d2 : Bool) (d3 : LL) (d4 : LL) (d5 : Int) {r : TV} {h : List Ob} (H : ref02_Others_H (fun r' h' => r' = r ∧ h' = h) d0 d1 d2 d3 d4 d5) : Fn Tryz.prog 70 [(TV.agg [(AV.fz (FV.int .i64 d0)), (AV.fz (FV.str d1)), (AV.fz (FV.bool d2)), (AV.fz (FV.sl 1 d3)), (AV.fz (FV.sl 6 d4)), (AV.fz (FV.int .i64 d5))])] [] r h :=
 Fn.by_tr (M := (modeOf [] [])) (lv := ref02_Others_lv) (own := none) (F := Tryz.f70) (by kernel_rfl) (by kernel_rfl) (by first | decide | simp) (fun _ _ h => h) (by kernel_rfl) H
def ref02_size_lv : List Nat → Keep := lvOf [([0, 1, 0, 1, 1, 0, 1, 0, 1, 0, 1, 1, 1], ⟨910, 0, [], false, false⟩)]
def ref02_size_S0 (d0 : Int) (d1 : ByteArray) (d2 : Bool) (d3 : LL) (d4 : LL) (d5 : Int) (depth : Int) (room : Int) (n11 : Int) (i : Int) : St := (St.mk [TV.und, (TV.one (AV.fz (FV.int .i64 depth))), (TV.one (AV.fz (FV.int .i64 room))), (TV.one (AV.ptr 0 0 0 0)), TV.und, TV.und, TV.und, (TV.one (AV.fz (FV.int .i64 100000))), (TV.one (AV.fz (FV.int .i64 n11))), (TV.one (AV.fz (FV.int .i64 i))), TV.und, TV.und, TV.und, TV.und, TV.und, TV.und, TV.und, TV.und, TV.und, TV.und, TV.und, TV.und, TV.und, TV.und, TV.und, TV.und, TV.und, TV.und, TV.und, TV.und, TV.und, TV.und, TV.und, TV.und, TV.und, TV.und, TV.und, TV.und, TV.und, TV.und, TV.und, TV.und, TV.und, TV.und, TV.und, TV.und, TV.und, TV.und, TV.und, TV.und, TV.und, TV.und, TV.und, TV.und, TV.und, TV.und, TV.und, TV.und, TV.und, TV.und, TV.und, TV.und, TV.und, TV.und, TV.und, TV.und, TV.und, TV.und, TV.und, TV.und, TV.und, TV.und, TV.und, TV.und, TV.und, TV.und, TV.und, TV.und, TV.und, TV.und, TV.und, TV.und, TV.und, TV.und, TV.und, TV.und, TV.und, TV.und, TV.und, TV.und, TV.und, TV.und, TV.und, TV.und, TV.und, TV.und, TV.und, TV.und, TV.und, TV.und, TV.und, TV.und, TV.und, TV.und, TV.und, TV.und, TV.und, TV.und, TV.und, TV.und, TV.und, TV.und, TV.und, TV.und, TV.und, TV.und, TV.und, TV.und, TV.und, TV.und, TV.und, TV.und, TV.und, TV.und, TV.und, TV.und, TV.und, TV.und, TV.und, TV.und, TV.und, TV.und, TV.und, TV.und, TV.und, TV.und, TV.und, TV.und, TV.und, TV.und, TV.und, TV.und, TV.und, TV.und, TV.und, TV.und, TV.und, TV.und, TV.und, TV.und, TV.und, TV.und, TV.und, TV.und, TV.und, TV.und, TV.und, TV.und, TV.und, TV.und, TV.und, TV.und, TV.und, TV.und, TV.und, TV.und, TV.und, TV.und, TV.und, TV.und, TV.und, TV.und] [(Ob.g 44 [(AV.fz (FV.int .i64 d0)), (AV.fz (FV.str d1)), (AV.fz (FV.bool d2)), (AV.fz (FV.sl 1 d3)), (AV.fz (FV.sl 6 d4)), (AV.fz (FV.int .i64 d5))])])
def ref02_size_L0 (R : TV → List Ob → Prop) (d0 : Int) (d1 : ByteArray) (d2 : Bool) (d3 : LL) (d4 : LL) (d5 : Int) (depth : Int) (room : Int) (n11 : Int) (i : Int) : Prop := LoopAt Tryz.prog (modeOf [] []) ref02_size_lv Tryz.f102 none R [1, 1, 1, 0, 1, 0, 1, 0, 1, 1, 0, 1, 0] (ref02_size_S0 d0 d1 d2 d3 d4 d5 depth room n11 i)
def ref02_size_R0 (R : TV → List Ob → Prop) (d0 : Int) (d1 : ByteArray) (d2 : Bool) (d3 : LL) (d4 : LL) (d5 : Int) (depth : Int) (room : Int) (n11 : Int) (i : Int) : Prop :=
 ((((decide (i < (((List.length d4) : Nat) : Int))) = true) → (((0 : Int) ≤ i) ∧ (∃ n19 : Int, (∃ s7 : ByteArray, (∃ b24 : Bool, (∃ es16 : LL, (∃ es17 : LL, (∃ n20 : Int, (((d4)[(Int.toNat i)]? = (some [(FV.int .i64 n19), (FV.str s7), (FV.bool b24), (FV.sl 1 es16), (FV.sl 6 es17), (FV.int .i64 n20)])) ∧ (∃ n21 : Int, ((Fn Tryz.prog 102 [(TV.agg [(AV.fz (FV.int .i64 n19)), (AV.fz (FV.str s7)), (AV.fz (FV.bool b24)), (AV.fz (FV.sl 1 es16)), (AV.fz (FV.sl 6 es17)), (AV.fz (FV.int .i64 n20))]), (TV.one (AV.fz (FV.int .i64 (IntKind.wrap .i64 (depth + 1))))), (TV.one (AV.fz (FV.int .i64 (IntKind.wrap .i64 (room - n11)))))] [] (TV.one (AV.fz (FV.int .i64 n21))) []) ∧ ((((decide (room < (IntKind.wrap .i64 (n11 + n21)))) = true) → (R (TV.one (AV.fz (FV.int .i64 100000))) [])) ∧ (((decide (room < (IntKind.wrap .i64 (n11 + n21)))) = false) → (ref02_size_L0 R d0 d1 d2 d3 d4 d5 depth room (IntKind.wrap .i64 (n11 + n21)) (IntKind.wrap .i64 (i + 1)))))))))))))))) ∧ (((decide (i < (((List.length d4) : Nat) : Int))) = false) → ((((d0 == 2) = true) → ((((decide ((((List.length d4) : Nat) : Int) < 2)) = true) → (R (TV.one (AV.fz (FV.int .i64 100000))) [])) ∧ (((decide ((((List.length d4) : Nat) : Int) < 2)) = false) → (((0 : Int) ≤ (IntKind.wrap .i64 ((((List.length d4) : Nat) : Int) - 1))) ∧ (∃ n22 : Int, (∃ s8 : ByteArray, (∃ b25 : Bool, (∃ es18 : LL, (∃ es19 : LL, (∃ n23 : Int, (((d4)[(Int.toNat (IntKind.wrap .i64 ((((List.length d4) : Nat) : Int) - 1)))]? = (some [(FV.int .i64 n22), (FV.str s8), (FV.bool b25), (FV.sl 1 es18), (FV.sl 6 es19), (FV.int .i64 n23)])) ∧ ((((n22 == 1) = true) → (R (TV.one (AV.fz (FV.int .i64 100000))) [])) ∧ (((n22 == 1) = false) → (((0 : Int) ≤ (IntKind.wrap .i64 ((((List.length d4) : Nat) : Int) - 1))) ∧ (∃ n24 : Int, (∃ s9 : ByteArray, (∃ b26 : Bool, (∃ es20 : LL, (∃ es21 : LL, (∃ n25 : Int, (((d4)[(Int.toNat (IntKind.wrap .i64 ((((List.length d4) : Nat) : Int) - 1)))]? = (some [(FV.int .i64 n24), (FV.str s9), (FV.bool b26), (FV.sl 1 es20), (FV.sl 6 es21), (FV.int .i64 n25)])) ∧ ((((n24 == 2) = true) → (R (TV.one (AV.fz (FV.int .i64 100000))) [])) ∧ (((n24 == 2) = false) → (R (TV.one (AV.fz (FV.int .i64 n11))) [])))))))))))))))))))))))) ∧ (((d0 == 2) = false) → (R (TV.one (AV.fz (FV.int .i64 n11))) [])))))
theorem ref02_size_l0 {R : TV → List Ob → Prop} {d0 : Int} {d1 : ByteArray} {d2 : Bool} {d3 : LL} {d4 : LL} {d5 : Int} {depth : Int} {room : Int} {n11 : Int} {i : Int} (h : ref02_size_R0 R d0 d1 d2 d3 d4 d5 depth room n11 i) : ref02_size_L0 R d0 d1 d2 d3 d4 d5 depth room n11 i :=
 LoopAt.by_tr (by kernel_rfl) (by kernel_rfl) h
def ref02_size_H (R : TV → List Ob → Prop) (d0 : Int) (d1 : ByteArray) (d2 : Bool) (d3 : LL) (d4 : LL) (d5 : Int) (depth : Int) (room : Int) : Prop :=
 ((((decide ((64 : Int) < depth)) = true) → (R (TV.one (AV.fz (FV.int .i64 100000))) [])) ∧ (((decide ((64 : Int) < depth)) = false) → ((((decide (room < 1)) = true) → (R (TV.one (AV.fz (FV.int .i64 100000))) [])) ∧ (((decide (room < 1)) = false) → ((((d0 == 1) = true) → (∃ b24 : Bool, ((Fn Tryz.prog 115 [(TV.agg [(AV.fz (FV.int .i64 d0)), (AV.fz (FV.str d1)), (AV.fz (FV.bool d2)), (AV.fz (FV.sl 1 d3)), (AV.fz (FV.sl 6 d4)), (AV.fz (FV.int .i64 d5))]), (TV.one (AV.fz (FV.bool false))), (TV.one (AV.fz (FV.bool false))), (TV.one (AV.fz (FV.bool true)))] [] (TV.one (AV.fz (FV.bool b24))) []) ∧ ((((Bool.not b24) = true) → (R (TV.one (AV.fz (FV.int .i64 100000))) [])) ∧ (((Bool.not b24) = false) → (ref02_size_L0 R d0 d1 d2 d3 d4 d5 depth room 1 0)))))) ∧ (((d0 == 1) = false) → ((((d0 == 2) = true) → (∃ b25 : Bool, ((Fn Tryz.prog 115 [(TV.agg [(AV.fz (FV.int .i64 d0)), (AV.fz (FV.str d1)), (AV.fz (FV.bool d2)), (AV.fz (FV.sl 1 d3)), (AV.fz (FV.sl 6 d4)), (AV.fz (FV.int .i64 d5))]), (TV.one (AV.fz (FV.bool false))), (TV.one (AV.fz (FV.bool false))), (TV.one (AV.fz (FV.bool true)))] [] (TV.one (AV.fz (FV.bool b25))) []) ∧ ((((Bool.not b25) = true) → (R (TV.one (AV.fz (FV.int .i64 100000))) [])) ∧ (((Bool.not b25) = false) → (ref02_size_L0 R d0 d1 d2 d3 d4 d5 depth room 1 0)))))) ∧ (((d0 == 2) = false) → ((((d0 == 3) = true) → (∃ b26 : Bool, ((Fn Tryz.prog 115 [(TV.agg [(AV.fz (FV.int .i64 d0)), (AV.fz (FV.str d1)), (AV.fz (FV.bool d2)), (AV.fz (FV.sl 1 d3)), (AV.fz (FV.sl 6 d4)), (AV.fz (FV.int .i64 d5))]), (TV.one (AV.fz (FV.bool false))), (TV.one (AV.fz (FV.bool false))), (TV.one (AV.fz (FV.bool true)))] [] (TV.one (AV.fz (FV.bool b26))) []) ∧ ((((Bool.not b26) = true) → (R (TV.one (AV.fz (FV.int .i64 100000))) [])) ∧ (((Bool.not b26) = false) → (ref02_size_L0 R d0 d1 d2 d3 d4 d5 depth room 1 0)))))) ∧ (((d0 == 3) = false) → ((((d0 == 4) = true) → (∃ n19 : Int, (∃ s7 : ByteArray, (∃ b27 : Bool, (∃ es16 : LL, (∃ es17 : LL, (∃ n20 : Int, (∃ b28 : Bool, ((Fn Tryz.prog 116 [(TV.one (AV.fz (FV.str d1)))] [] (TV.tup [(true, [(AV.fz (FV.int .i64 n19)), (AV.fz (FV.str s7)), (AV.fz (FV.bool b27)), (AV.fz (FV.sl 1 es16)), (AV.fz (FV.sl 6 es17)), (AV.fz (FV.int .i64 n20))]), (false, [(AV.fz (FV.bool b28))])]) []) ∧ (((b28 = true) → ((((n19 == 4) = true) → (∃ b29 : Bool, ((Fn Tryz.prog 115 [(TV.agg [(AV.fz (FV.int .i64 d0)), (AV.fz (FV.str d1)), (AV.fz (FV.bool d2)), (AV.fz (FV.sl 1 d3)), (AV.fz (FV.sl 6 d4)), (AV.fz (FV.int .i64 d5))]), (TV.one (AV.fz (FV.bool true))), (TV.one (AV.fz (FV.bool false))), (TV.one (AV.fz (FV.bool false)))] [] (TV.one (AV.fz (FV.bool b29))) []) ∧ (((b29 = true) → (R (TV.one (AV.fz (FV.int .i64 1))) [])) ∧ ((b29 = false) → (R (TV.one (AV.fz (FV.int .i64 100000))) [])))))) ∧ (((n19 == 4) = false) → (R (TV.one (AV.fz (FV.int .i64 100000))) [])))) ∧ ((b28 = false) → (R (TV.one (AV.fz (FV.int .i64 100000))) [])))))))))))) ∧ (((d0 == 4) = false) → ((((d0 == 5) = true) → (∃ es18 : LL, (∃ n21 : Int, ((Fn Tryz.prog 117 [(TV.one (AV.fz (FV.sl 1 (List.map (fun b31 => [(FV.int .u8 (((UInt8.toNat b31) : Nat) : Int))]) (Array.toList (ByteArray.data d1))))))] [] (TV.tup [(false, [(AV.fz (FV.sl 1 es18))]), (false, [(AV.fz (FV.int .i64 n21))])]) []) ∧ ((((decide (n21 < 0)) = true) → ((((decide ((((List.length es18) : Nat) : Int) ≤ 4096)) = true) → ((((decide ((((ByteArray.size d1) : Nat) : Int) ≤ 65536)) = true) → (∃ b32 : Bool, ((Fn Tryz.prog 115 [(TV.agg [(AV.fz (FV.int .i64 d0)), (AV.fz (FV.str d1)), (AV.fz (FV.bool d2)), (AV.fz (FV.sl 1 d3)), (AV.fz (FV.sl 6 d4)), (AV.fz (FV.int .i64 d5))]), (TV.one (AV.fz (FV.bool true))), (TV.one (AV.fz (FV.bool false))), (TV.one (AV.fz (FV.bool false)))] [] (TV.one (AV.fz (FV.bool b32))) []) ∧ (((b32 = true) → (R (TV.one (AV.fz (FV.int .i64 1))) [])) ∧ ((b32 = false) → (R (TV.one (AV.fz (FV.int .i64 100000))) [])))))) ∧ (((decide ((((ByteArray.size d1) : Nat) : Int) ≤ 65536)) = false) → (R (TV.one (AV.fz (FV.int .i64 100000))) [])))) ∧ (((decide ((((List.length es18) : Nat) : Int) ≤ 4096)) = false) → (R (TV.one (AV.fz (FV.int .i64 100000))) [])))) ∧ (((decide (n21 < 0)) = false) → (R (TV.one (AV.fz (FV.int .i64 100000))) []))))))) ∧ (((d0 == 5) = false) → ((((d0 == 6) = true) → (∃ es19 : LL, (∃ n22 : Int, ((Fn Tryz.prog 117 [(TV.one (AV.fz (FV.sl 1 (List.map (fun b34 => [(FV.int .u8 (((UInt8.toNat b34) : Nat) : Int))]) (Array.toList (ByteArray.data d1))))))] [] (TV.tup [(false, [(AV.fz (FV.sl 1 es19))]), (false, [(AV.fz (FV.int .i64 n22))])]) []) ∧ ((((decide (n22 < 0)) = true) → (((((((List.length es19) : Nat) : Int) == 1) = true) → (∃ b35 : Bool, ((Fn Tryz.prog 115 [(TV.agg [(AV.fz (FV.int .i64 d0)), (AV.fz (FV.str d1)), (AV.fz (FV.bool d2)), (AV.fz (FV.sl 1 d3)), (AV.fz (FV.sl 6 d4)), (AV.fz (FV.int .i64 d5))]), (TV.one (AV.fz (FV.bool true))), (TV.one (AV.fz (FV.bool false))), (TV.one (AV.fz (FV.bool false)))] [] (TV.one (AV.fz (FV.bool b35))) []) ∧ (((b35 = true) → (R (TV.one (AV.fz (FV.int .i64 1))) [])) ∧ ((b35 = false) → (R (TV.one (AV.fz (FV.int .i64 100000))) [])))))) ∧ ((((((List.length es19) : Nat) : Int) == 1) = false) → (R (TV.one (AV.fz (FV.int .i64 100000))) [])))) ∧ (((decide (n22 < 0)) = false) → (R (TV.one (AV.fz (FV.int .i64 100000))) []))))))) ∧ (((d0 == 6) = false) → ((((d0 == 7) = true) → (∃ b36 : Bool, ((Fn Tryz.prog 118 [(TV.agg [(AV.fz (FV.bool d2)), (AV.fz (FV.sl 1 d3))])] [] (TV.one (AV.fz (FV.bool b36))) []) ∧ (((b36 = true) → (∃ b37 : Bool, ((Fn Tryz.prog 115 [(TV.agg [(AV.fz (FV.int .i64 d0)), (AV.fz (FV.str d1)), (AV.fz (FV.bool d2)), (AV.fz (FV.sl 1 d3)), (AV.fz (FV.sl 6 d4)), (AV.fz (FV.int .i64 d5))]), (TV.one (AV.fz (FV.bool false))), (TV.one (AV.fz (FV.bool true))), (TV.one (AV.fz (FV.bool false)))] [] (TV.one (AV.fz (FV.bool b37))) []) ∧ (((b37 = true) → (R (TV.one (AV.fz (FV.int .i64 1))) [])) ∧ ((b37 = false) → (R (TV.one (AV.fz (FV.int .i64 100000))) [])))))) ∧ ((b36 = false) → (R (TV.one (AV.fz (FV.int .i64 100000))) [])))))) ∧ (((d0 == 7) = false) → ((((d0 == 8) = true) → (∃ b38 : Bool, ((Fn Tryz.prog 115 [(TV.agg [(AV.fz (FV.int .i64 d0)), (AV.fz (FV.str d1)), (AV.fz (FV.bool d2)), (AV.fz (FV.sl 1 d3)), (AV.fz (FV.sl 6 d4)), (AV.fz (FV.int .i64 d5))]), (TV.one (AV.fz (FV.bool false))), (TV.one (AV.fz (FV.bool false))), (TV.one (AV.fz (FV.bool false)))] [] (TV.one (AV.fz (FV.bool b38))) []) ∧ (((b38 = true) → (R (TV.one (AV.fz (FV.int .i64 1))) [])) ∧ ((b38 = false) → (R (TV.one (AV.fz (FV.int .i64 100000))) [])))))) ∧ (((d0 == 8) = false) → ((((d0 == 9) = true) → (∃ b39 : Bool, ((Fn Tryz.prog 115 [(TV.agg [(AV.fz (FV.int .i64 d0)), (AV.fz (FV.str d1)), (AV.fz (FV.bool d2)), (AV.fz (FV.sl 1 d3)), (AV.fz (FV.sl 6 d4)), (AV.fz (FV.int .i64 d5))]), (TV.one (AV.fz (FV.bool false))), (TV.one (AV.fz (FV.bool false))), (TV.one (AV.fz (FV.bool false)))] [] (TV.one (AV.fz (FV.bool b39))) []) ∧ (((b39 = true) → (R (TV.one (AV.fz (FV.int .i64 1))) [])) ∧ ((b39 = false) → (R (TV.one (AV.fz (FV.int .i64 100000))) [])))))) ∧ (((d0 == 9) = false) → ((((d0 == 10) = true) → (∃ b40 : Bool, ((Fn Tryz.prog 115 [(TV.agg [(AV.fz (FV.int .i64 d0)), (AV.fz (FV.str d1)), (AV.fz (FV.bool d2)), (AV.fz (FV.sl 1 d3)), (AV.fz (FV.sl 6 d4)), (AV.fz (FV.int .i64 d5))]), (TV.one (AV.fz (FV.bool false))), (TV.one (AV.fz (FV.bool false))), (TV.one (AV.fz (FV.bool false)))] [] (TV.one (AV.fz (FV.bool b40))) []) ∧ (((b40 = true) → (R (TV.one (AV.fz (FV.int .i64 1))) [])) ∧ ((b40 = false) → (R (TV.one (AV.fz (FV.int .i64 100000))) [])))))) ∧ (((d0 == 10) = false) → ((((d0 == 11) = true) → (∃ b41 : Bool, ((Fn Tryz.prog 115 [(TV.agg [(AV.fz (FV.int .i64 d0)), (AV.fz (FV.str d1)), (AV.fz (FV.bool d2)), (AV.fz (FV.sl 1 d3)), (AV.fz (FV.sl 6 d4)), (AV.fz (FV.int .i64 d5))]), (TV.one (AV.fz (FV.bool true))), (TV.one (AV.fz (FV.bool false))), (TV.one (AV.fz (FV.bool false)))] [] (TV.one (AV.fz (FV.bool b41))) []) ∧ (((b41 = true) → (R (TV.one (AV.fz (FV.int .i64 1))) [])) ∧ ((b41 = false) → (R (TV.one (AV.fz (FV.int .i64 100000))) [])))))) ∧ (((d0 == 11) = false) → (R (TV.one (AV.fz (FV.int .i64 100000))) [])))))))))))))))))))))))))))
theorem ref02_size_fn (d0 : Int) (d1 : ByteArray) (d2 : Bool) (d3 : LL) (d4 : LL) (d5 : Int) (depth : Int) (room : Int) {r : TV} {h : List Ob} (H : ref02_size_H (fun r' h' => r' = r ∧ h' = h) d0 d1 d2 d3 d4 d5 depth room) : Fn Tryz.prog 102 [(TV.agg [(AV.fz (FV.int .i64 d0)), (AV.fz (FV.str d1)), (AV.fz (FV.bool d2)), (AV.fz (FV.sl 1 d3)), (AV.fz (FV.sl 6 d4)), (AV.fz (FV.int .i64 d5))]), (TV.one (AV.fz (FV.int .i64 depth))), (TV.one (AV.fz (FV.int .i64 room)))] [] r h :=
 Fn.by_tr (M := (modeOf [] [])) (lv := ref02_size_lv) (own := none) (F := Tryz.f102) (by kernel_rfl) (by kernel_rfl) (by first | decide | simp) (fun _ _ h => h) (by kernel_rfl) H
def ref02_bare_lv : List Nat → Keep := lvOf []
def ref02_bare_H (R : TV → List Ob → Prop) (d0 : Int) (d1 : ByteArray) (d2 : Bool) (d3 : LL) (d4 : LL) (d5 : Int) (text : Bool) (number : Bool) (list : Bool) : Prop :=
 (((text = true) → (((number = true) → (((list = true) → (R (TV.one (AV.fz (FV.bool true))) [])) ∧ ((list = false) → (R (TV.one (AV.fz (FV.bool ((((List.length d4) : Nat) : Int) == 0)))) [])))) ∧ ((number = false) → ((((Bool.not d2) = true) → (((((((List.length d3) : Nat) : Int) == 0) = true) → (((list = true) → (R (TV.one (AV.fz (FV.bool true))) [])) ∧ ((list = false) → (R (TV.one (AV.fz (FV.bool ((((List.length d4) : Nat) : Int) == 0)))) [])))) ∧ ((((((List.length d3) : Nat) : Int) == 0) = false) → (R (TV.one (AV.fz (FV.bool false))) [])))) ∧ (((Bool.not d2) = false) → (R (TV.one (AV.fz (FV.bool false))) [])))))) ∧ ((text = false) → (((((ByteArray.toList d1) == (ByteArray.toList (ByteArray.mk #[]))) = true) → (((number = true) → (((list = true) → (R (TV.one (AV.fz (FV.bool true))) [])) ∧ ((list = false) → (R (TV.one (AV.fz (FV.bool ((((List.length d4) : Nat) : Int) == 0)))) [])))) ∧ ((number = false) → ((((Bool.not d2) = true) → (((((((List.length d3) : Nat) : Int) == 0) = true) → (((list = true) → (R (TV.one (AV.fz (FV.bool true))) [])) ∧ ((list = false) → (R (TV.one (AV.fz (FV.bool ((((List.length d4) : Nat) : Int) == 0)))) [])))) ∧ ((((((List.length d3) : Nat) : Int) == 0) = false) → (R (TV.one (AV.fz (FV.bool false))) [])))) ∧ (((Bool.not d2) = false) → (R (TV.one (AV.fz (FV.bool false))) [])))))) ∧ ((((ByteArray.toList d1) == (ByteArray.toList (ByteArray.mk #[]))) = false) → (R (TV.one (AV.fz (FV.bool false))) [])))))
theorem ref02_bare_fn (d0 : Int) (d1 : ByteArray) (d2 : Bool) (d3 : LL) (d4 : LL) (d5 : Int) (text : Bool) (number : Bool) (list : Bool) {r : TV} {h : List Ob} (H : ref02_bare_H (fun r' h' => r' = r ∧ h' = h) d0 d1 d2 d3 d4 d5 text number list) : Fn Tryz.prog 115 [(TV.agg [(AV.fz (FV.int .i64 d0)), (AV.fz (FV.str d1)), (AV.fz (FV.bool d2)), (AV.fz (FV.sl 1 d3)), (AV.fz (FV.sl 6 d4)), (AV.fz (FV.int .i64 d5))]), (TV.one (AV.fz (FV.bool text))), (TV.one (AV.fz (FV.bool number))), (TV.one (AV.fz (FV.bool list)))] [] r h :=
 Fn.by_tr (M := (modeOf [] [])) (lv := ref02_bare_lv) (own := none) (F := Tryz.f115) (by kernel_rfl) (by kernel_rfl) (by first | decide | simp) (fun _ _ h => h) (by kernel_rfl) H
def ref02_Atom_lv : List Nat → Keep := lvOf [([0, 1, 0, 1, 1, 1, 1, 1, 1, 1, 1], ⟨325, 0, [], false, false⟩)]
def ref02_Atom_S0 (s : ByteArray) (es1 : LL) (i : Int) : St := (St.mk [(TV.one (AV.fz (FV.str s))), TV.und, (TV.one (AV.ptr 0 0 0 0)), TV.und, TV.und, TV.und, (TV.one (AV.fz (FV.sl 1 es1))), TV.und, (TV.one (AV.fz (FV.int .i64 i))), TV.und, TV.und, TV.und, TV.und, TV.und, TV.und, TV.und, TV.und, TV.und, TV.und, TV.und, TV.und, TV.und, TV.und, TV.und, TV.und, TV.und, TV.und, TV.und, TV.und, TV.und, TV.und, TV.und, TV.und, TV.und, TV.und, TV.und, TV.und, TV.und, TV.und, TV.und, TV.und, TV.und, TV.und, TV.und, TV.und, TV.und, TV.und, TV.und, TV.und, TV.und, TV.und, TV.und, TV.und, TV.und, TV.und, TV.und, TV.und, TV.und, TV.und, TV.und, TV.und, TV.und, TV.und, TV.und, TV.und, TV.und, TV.und, TV.und, TV.und, TV.und, TV.und, TV.und, TV.und, TV.und, TV.und, TV.und, TV.und, TV.und, TV.und, TV.und, TV.und, TV.und, TV.und, TV.und, TV.und, TV.und, TV.und, TV.und, TV.und, TV.und] [(Ob.g 44 [(AV.fz (FV.int .i64 0)), (AV.fz (FV.str (ByteArray.mk #[]))), (AV.fz (FV.bool false)), (AV.ofl 1 1), (AV.ofl 6 2), (AV.fz (FV.int .i64 0))]), (Ob.f 0 1 ([] : LL)), (Ob.f 0 6 ([] : LL))])
def ref02_Atom_L0 (R : TV → List Ob → Prop) (s : ByteArray) (es1 : LL) (i : Int) : Prop := LoopAt Tryz.prog (modeOf [] []) ref02_Atom_lv Tryz.f116 none R [1, 1, 1, 1, 1, 1, 1, 1, 0, 1, 0] (ref02_Atom_S0 s es1 i)
def ref02_Atom_R0 (R : TV → List Ob → Prop) (s : ByteArray) (es1 : List (List FV)) (i : Int) : Prop :=
 ((((decide (i < (((List.length es1) : Nat) : Int))) = true) → (((0 : Int) ≤ i) ∧ (∃ n5 : Int, (((es1)[(Int.toNat i)]? = (some [(FV.int .i64 n5)])) ∧ (∃ b13 : Bool, ((Fn Tryz.prog 125 [(TV.one (AV.fz (FV.int .i64 n5)))] [] (TV.one (AV.fz (FV.bool b13))) []) ∧ (((b13 = true) → (R (TV.tup [(true, [(AV.fz (FV.int .i64 0)), (AV.fz (FV.str (ByteArray.mk #[]))), (AV.fz (FV.bool false)), (AV.fz (FV.sl 1 ([] : LL))), (AV.fz (FV.sl 6 ([] : LL))), (AV.fz (FV.int .i64 0))]), (false, [(AV.fz (FV.bool false))])]) [])) ∧ ((b13 = false) → (ref02_Atom_L0 R s es1 (IntKind.wrap .i64 (i + 1))))))))))) ∧ (((decide (i < (((List.length es1) : Nat) : Int))) = false) → (R (TV.tup [(true, [(AV.fz (FV.int .i64 4)), (AV.fz (FV.str s)), (AV.fz (FV.bool false)), (AV.fz (FV.sl 1 ([] : LL))), (AV.fz (FV.sl 6 ([] : LL))), (AV.fz (FV.int .i64 0))]), (false, [(AV.fz (FV.bool true))])]) [])))
theorem ref02_Atom_l0 {R : TV → List Ob → Prop} {s : ByteArray} {es1 : LL} {i : Int} (h : ref02_Atom_R0 R s es1 i) : ref02_Atom_L0 R s es1 i :=
 LoopAt.by_tr (by kernel_rfl) (by kernel_rfl) h
def ref02_Atom_H (R : TV → List Ob → Prop) (s : ByteArray) : Prop :=
 (((((ByteArray.toList s) == (ByteArray.toList (ByteArray.mk #[35, 116]))) = true) → (R (TV.tup [(true, [(AV.fz (FV.int .i64 8)), (AV.fz (FV.str (ByteArray.mk #[]))), (AV.fz (FV.bool false)), (AV.fz (FV.sl 1 ([] : LL))), (AV.fz (FV.sl 6 ([] : LL))), (AV.fz (FV.int .i64 0))]), (false, [(AV.fz (FV.bool true))])]) [])) ∧ ((((ByteArray.toList s) == (ByteArray.toList (ByteArray.mk #[35, 116]))) = false) → (((((ByteArray.toList s) == (ByteArray.toList (ByteArray.mk #[35, 116, 114, 117, 101]))) = true) → (R (TV.tup [(true, [(AV.fz (FV.int .i64 8)), (AV.fz (FV.str (ByteArray.mk #[]))), (AV.fz (FV.bool false)), (AV.fz (FV.sl 1 ([] : LL))), (AV.fz (FV.sl 6 ([] : LL))), (AV.fz (FV.int .i64 0))]), (false, [(AV.fz (FV.bool true))])]) [])) ∧ ((((ByteArray.toList s) == (ByteArray.toList (ByteArray.mk #[35, 116, 114, 117, 101]))) = false) → (((((ByteArray.toList s) == (ByteArray.toList (ByteArray.mk #[35, 102]))) = true) → (R (TV.tup [(true, [(AV.fz (FV.int .i64 9)), (AV.fz (FV.str (ByteArray.mk #[]))), (AV.fz (FV.bool false)), (AV.fz (FV.sl 1 ([] : LL))), (AV.fz (FV.sl 6 ([] : LL))), (AV.fz (FV.int .i64 0))]), (false, [(AV.fz (FV.bool true))])]) [])) ∧ ((((ByteArray.toList s) == (ByteArray.toList (ByteArray.mk #[35, 102]))) = false) → (((((ByteArray.toList s) == (ByteArray.toList (ByteArray.mk #[35, 102, 97, 108, 115, 101]))) = true) → (R (TV.tup [(true, [(AV.fz (FV.int .i64 9)), (AV.fz (FV.str (ByteArray.mk #[]))), (AV.fz (FV.bool false)), (AV.fz (FV.sl 1 ([] : LL))), (AV.fz (FV.sl 6 ([] : LL))), (AV.fz (FV.int .i64 0))]), (false, [(AV.fz (FV.bool true))])]) [])) ∧ ((((ByteArray.toList s) == (ByteArray.toList (ByteArray.mk #[35, 102, 97, 108, 115, 101]))) = false) → (∃ b13 : Bool, (∃ es4 : LL, (∃ b14 : Bool, ((Fn Tryz.prog 123 [(TV.one (AV.fz (FV.str s)))] [] (TV.tup [(true, [(AV.fz (FV.bool b13)), (AV.fz (FV.sl 1 es4))]), (false, [(AV.fz (FV.bool b14))])]) []) ∧ (((b14 = true) → (R (TV.tup [(true, [(AV.fz (FV.int .i64 7)), (AV.fz (FV.str (ByteArray.mk #[]))), (AV.fz (FV.bool b13)), (AV.fz (FV.sl 1 es4)), (AV.fz (FV.sl 6 ([] : LL))), (AV.fz (FV.int .i64 0))]), (false, [(AV.fz (FV.bool true))])]) [])) ∧ ((b14 = false) → ((((decide ((((ByteArray.size s) : Nat) : Int) < 1)) = true) → (R (TV.tup [(true, [(AV.fz (FV.int .i64 0)), (AV.fz (FV.str (ByteArray.mk #[]))), (AV.fz (FV.bool false)), (AV.fz (FV.sl 1 ([] : LL))), (AV.fz (FV.sl 6 ([] : LL))), (AV.fz (FV.int .i64 0))]), (false, [(AV.fz (FV.bool false))])]) [])) ∧ (((decide ((((ByteArray.size s) : Nat) : Int) < 1)) = false) → ((((decide ((64 : Int) < (((ByteArray.size s) : Nat) : Int))) = true) → (R (TV.tup [(true, [(AV.fz (FV.int .i64 0)), (AV.fz (FV.str (ByteArray.mk #[]))), (AV.fz (FV.bool false)), (AV.fz (FV.sl 1 ([] : LL))), (AV.fz (FV.sl 6 ([] : LL))), (AV.fz (FV.int .i64 0))]), (false, [(AV.fz (FV.bool false))])]) [])) ∧ (((decide ((64 : Int) < (((ByteArray.size s) : Nat) : Int))) = false) → (((((ByteArray.toList s) == (ByteArray.toList (ByteArray.mk #[46]))) = true) → (R (TV.tup [(true, [(AV.fz (FV.int .i64 0)), (AV.fz (FV.str (ByteArray.mk #[]))), (AV.fz (FV.bool false)), (AV.fz (FV.sl 1 ([] : LL))), (AV.fz (FV.sl 6 ([] : LL))), (AV.fz (FV.int .i64 0))]), (false, [(AV.fz (FV.bool false))])]) [])) ∧ ((((ByteArray.toList s) == (ByteArray.toList (ByteArray.mk #[46]))) = false) → (((0 : Int) ≤ 0) ∧ (∃ c3 : UInt8, ((((ByteArray.data s))[(Int.toNat 0)]? = (some c3)) ∧ (((((((UInt8.toNat c3) : Nat) : Int) == 35) = true) → (R (TV.tup [(true, [(AV.fz (FV.int .i64 0)), (AV.fz (FV.str (ByteArray.mk #[]))), (AV.fz (FV.bool false)), (AV.fz (FV.sl 1 ([] : LL))), (AV.fz (FV.sl 6 ([] : LL))), (AV.fz (FV.int .i64 0))]), (false, [(AV.fz (FV.bool false))])]) [])) ∧ ((((((UInt8.toNat c3) : Nat) : Int) == 35) = false) → (∃ b15 : Bool, ((Fn Tryz.prog 124 [(TV.one (AV.fz (FV.str s))), (TV.one (AV.fz (FV.int .i64 0)))] [] (TV.one (AV.fz (FV.bool b15))) []) ∧ (((b15 = true) → (R (TV.tup [(true, [(AV.fz (FV.int .i64 0)), (AV.fz (FV.str (ByteArray.mk #[]))), (AV.fz (FV.bool false)), (AV.fz (FV.sl 1 ([] : LL))), (AV.fz (FV.sl 6 ([] : LL))), (AV.fz (FV.int .i64 0))]), (false, [(AV.fz (FV.bool false))])]) [])) ∧ ((b15 = false) → (((0 : Int) ≤ 0) ∧ (∃ c4 : UInt8, ((((ByteArray.data s))[(Int.toNat 0)]? = (some c4)) ∧ (((((((UInt8.toNat c4) : Nat) : Int) == 43) = true) → (∃ b16 : Bool, ((Fn Tryz.prog 124 [(TV.one (AV.fz (FV.str s))), (TV.one (AV.fz (FV.int .i64 1)))] [] (TV.one (AV.fz (FV.bool b16))) []) ∧ (((b16 = true) → (R (TV.tup [(true, [(AV.fz (FV.int .i64 0)), (AV.fz (FV.str (ByteArray.mk #[]))), (AV.fz (FV.bool false)), (AV.fz (FV.sl 1 ([] : LL))), (AV.fz (FV.sl 6 ([] : LL))), (AV.fz (FV.int .i64 0))]), (false, [(AV.fz (FV.bool false))])]) [])) ∧ ((b16 = false) → (∃ es5 : LL, (∃ n5 : Int, ((Fn Tryz.prog 117 [(TV.one (AV.fz (FV.sl 1 (List.map (fun b18 => [(FV.int .u8 (((UInt8.toNat b18) : Nat) : Int))]) (Array.toList (ByteArray.data s))))))] [] (TV.tup [(false, [(AV.fz (FV.sl 1 es5))]), (false, [(AV.fz (FV.int .i64 n5))])]) []) ∧ ((((decide ((0 : Int) ≤ n5)) = true) → (R (TV.tup [(true, [(AV.fz (FV.int .i64 0)), (AV.fz (FV.str (ByteArray.mk #[]))), (AV.fz (FV.bool false)), (AV.fz (FV.sl 1 ([] : LL))), (AV.fz (FV.sl 6 ([] : LL))), (AV.fz (FV.int .i64 0))]), (false, [(AV.fz (FV.bool false))])]) [])) ∧ (((decide ((0 : Int) ≤ n5)) = false) → (ref02_Atom_L0 R s es5 0))))))))))) ∧ ((((((UInt8.toNat c4) : Nat) : Int) == 43) = false) → (((0 : Int) ≤ 0) ∧ (∃ c5 : UInt8, ((((ByteArray.data s))[(Int.toNat 0)]? = (some c5)) ∧ (((((((UInt8.toNat c5) : Nat) : Int) == 45) = true) → (∃ b19 : Bool, ((Fn Tryz.prog 124 [(TV.one (AV.fz (FV.str s))), (TV.one (AV.fz (FV.int .i64 1)))] [] (TV.one (AV.fz (FV.bool b19))) []) ∧ (((b19 = true) → (R (TV.tup [(true, [(AV.fz (FV.int .i64 0)), (AV.fz (FV.str (ByteArray.mk #[]))), (AV.fz (FV.bool false)), (AV.fz (FV.sl 1 ([] : LL))), (AV.fz (FV.sl 6 ([] : LL))), (AV.fz (FV.int .i64 0))]), (false, [(AV.fz (FV.bool false))])]) [])) ∧ ((b19 = false) → (∃ es6 : LL, (∃ n6 : Int, ((Fn Tryz.prog 117 [(TV.one (AV.fz (FV.sl 1 (List.map (fun b21 => [(FV.int .u8 (((UInt8.toNat b21) : Nat) : Int))]) (Array.toList (ByteArray.data s))))))] [] (TV.tup [(false, [(AV.fz (FV.sl 1 es6))]), (false, [(AV.fz (FV.int .i64 n6))])]) []) ∧ ((((decide ((0 : Int) ≤ n6)) = true) → (R (TV.tup [(true, [(AV.fz (FV.int .i64 0)), (AV.fz (FV.str (ByteArray.mk #[]))), (AV.fz (FV.bool false)), (AV.fz (FV.sl 1 ([] : LL))), (AV.fz (FV.sl 6 ([] : LL))), (AV.fz (FV.int .i64 0))]), (false, [(AV.fz (FV.bool false))])]) [])) ∧ (((decide ((0 : Int) ≤ n6)) = false) → (ref02_Atom_L0 R s es6 0))))))))))) ∧ ((((((UInt8.toNat c5) : Nat) : Int) == 45) = false) → (∃ es7 : LL, (∃ n7 : Int, ((Fn Tryz.prog 117 [(TV.one (AV.fz (FV.sl 1 (List.map (fun b23 => [(FV.int .u8 (((UInt8.toNat b23) : Nat) : Int))]) (Array.toList (ByteArray.data s))))))] [] (TV.tup [(false, [(AV.fz (FV.sl 1 es7))]), (false, [(AV.fz (FV.int .i64 n7))])]) []) ∧ ((((decide ((0 : Int) ≤ n7)) = true) → (R (TV.tup [(true, [(AV.fz (FV.int .i64 0)), (AV.fz (FV.str (ByteArray.mk #[]))), (AV.fz (FV.bool false)), (AV.fz (FV.sl 1 ([] : LL))), (AV.fz (FV.sl 6 ([] : LL))), (AV.fz (FV.int .i64 0))]), (false, [(AV.fz (FV.bool false))])]) [])) ∧ (((decide ((0 : Int) ≤ n7)) = false) → (ref02_Atom_L0 R s es7 0)))))))))))))))))))))))))))))))))))))))))))))
theorem ref02_Atom_fn (s : ByteArray) {r : TV} {h : List Ob} (H : ref02_Atom_H (fun r' h' => r' = r ∧ h' = h) s) : Fn Tryz.prog 116 [(TV.one (AV.fz (FV.str s)))] [] r h :=
 Fn.by_tr (M := (modeOf [] [])) (lv := ref02_Atom_lv) (own := none) (F := Tryz.f116) (by kernel_rfl) (by kernel_rfl) (by first | decide | simp) (fun _ _ h => h) (by kernel_rfl) H
def ref02_Chars_lv : List Nat → Keep := lvOf [([0, 0, 1, 1, 1], ⟨49, 0, [], false, false⟩)]
def ref02_Chars_S0 (b : LL) (at_ : Int) (o : LL) : St := (St.mk [(TV.one (AV.fz (FV.sl 1 b))), TV.und, TV.und, TV.und, (TV.one (AV.ofl 1 0)), (TV.one (AV.fz (FV.int .i64 at_))), TV.und, TV.und, TV.und, TV.und, TV.und, TV.und, TV.und, TV.und, TV.und, TV.und, TV.und, TV.und, TV.und, TV.und, TV.und, TV.und, TV.und, TV.und, TV.und, TV.und, TV.und, TV.und, TV.und] [(Ob.f 0 1 o)])
def ref02_Chars_L0 (R : TV → List Ob → Prop) (b : LL) (at_ : Int) (o : LL) : Prop := LoopAt Tryz.prog (modeOf [] []) ref02_Chars_lv Tryz.f117 none R [1, 1, 1, 0, 0] (ref02_Chars_S0 b at_ o)
def ref02_Chars_R0 (R : TV → List Ob → Prop) (b : List (List FV)) (at_ : Int) (o : List (List FV)) : Prop :=
 ((((decide (at_ < (((List.length b) : Nat) : Int))) = true) → (∃ n4 : Int, (∃ n5 : Int, ((Fn Tryz.prog 126 [(TV.one (AV.fz (FV.sl 1 b))), (TV.one (AV.fz (FV.int .i64 at_)))] [] (TV.tup [(false, [(AV.fz (FV.int .i64 n4))]), (false, [(AV.fz (FV.int .i64 n5))])]) []) ∧ ((((n5 == 0) = true) → (R (TV.tup [(false, [(AV.fz (FV.sl 1 ([] : LL)))]), (false, [(AV.fz (FV.int .i64 at_))])]) [])) ∧ (((n5 == 0) = false) → (((((List.length o) + (List.length [[(FV.int .i64 n4)]])) * 8) ≤ 220000000000000) ∧ (ref02_Chars_L0 R b (IntKind.wrap .i64 (at_ + n5)) (o ++ [[(FV.int .i64 n4)]]))))))))) ∧ (((decide (at_ < (((List.length b) : Nat) : Int))) = false) → (R (TV.tup [(false, [(AV.fz (FV.sl 1 o))]), (false, [(AV.fz (FV.int .i64 (-1)))])]) [])))
theorem ref02_Chars_l0 {R : TV → List Ob → Prop} {b : LL} {at_ : Int} {o : LL} (h : ref02_Chars_R0 R b at_ o) : ref02_Chars_L0 R b at_ o :=
 LoopAt.by_tr (by kernel_rfl) (by kernel_rfl) h
def ref02_Chars_H (R : TV → List Ob → Prop) (b : List (List FV)) : Prop :=
 (ref02_Chars_L0 R b 0 ([] : List (List FV)))
theorem ref02_Chars_fn (b : LL) {r : TV} {h : List Ob} (H : ref02_Chars_H (fun r' h' => r' = r ∧ h' = h) b) : Fn Tryz.prog 117 [(TV.one (AV.fz (FV.sl 1 b)))] [] r h :=
 Fn.by_tr (M := (modeOf [] [])) (lv := ref02_Chars_lv) (own := none) (F := Tryz.f117) (by kernel_rfl) (by kernel_rfl) (by first | decide | simp) (fun _ _ h => h) (by kernel_rfl) H
def ref02_digit_lv : List Nat → Keep := lvOf []
def ref02_digit_H (R : TV → List Ob → Prop) (s : ByteArray) (i : Int) : Prop :=
 ((((decide (i < (((ByteArray.size s) : Nat) : Int))) = true) → (((0 : Int) ≤ i) ∧ (∃ c2 : UInt8, ((((ByteArray.data s))[(Int.toNat i)]? = (some c2)) ∧ ((((decide ((48 : Int) ≤ (((UInt8.toNat c2) : Nat) : Int))) = true) → (((0 : Int) ≤ i) ∧ (∃ c3 : UInt8, ((((ByteArray.data s))[(Int.toNat i)]? = (some c3)) ∧ (R (TV.one (AV.fz (FV.bool (decide ((((UInt8.toNat c3) : Nat) : Int) ≤ 57))))) []))))) ∧ (((decide ((48 : Int) ≤ (((UInt8.toNat c2) : Nat) : Int))) = false) → (R (TV.one (AV.fz (FV.bool false))) []))))))) ∧ (((decide (i < (((ByteArray.size s) : Nat) : Int))) = false) → (R (TV.one (AV.fz (FV.bool false))) [])))
theorem ref02_digit_fn (s : ByteArray) (i : Int) {r : TV} {h : List Ob} (H : ref02_digit_H (fun r' h' => r' = r ∧ h' = h) s i) : Fn Tryz.prog 124 [(TV.one (AV.fz (FV.str s))), (TV.one (AV.fz (FV.int .i64 i)))] [] r h :=
 Fn.by_tr (M := (modeOf [] [])) (lv := ref02_digit_lv) (own := none) (F := Tryz.f124) (by kernel_rfl) (by kernel_rfl) (by first | decide | simp) (fun _ _ h => h) (by kernel_rfl) H
def ref02_Ends_lv : List Nat → Keep := lvOf []
def ref02_Ends_H (R : TV → List Ob → Prop) (c : Int) : Prop :=
 (∃ b1 : Bool, ((Fn Tryz.prog 131 [(TV.one (AV.fz (FV.int .i64 c)))] [] (TV.one (AV.fz (FV.bool b1))) []) ∧ (((b1 = true) → (R (TV.one (AV.fz (FV.bool true))) [])) ∧ ((b1 = false) → ((((c == 40) = true) → (R (TV.one (AV.fz (FV.bool true))) [])) ∧ (((c == 40) = false) → ((((c == 41) = true) → (R (TV.one (AV.fz (FV.bool true))) [])) ∧ (((c == 41) = false) → ((((c == 59) = true) → (R (TV.one (AV.fz (FV.bool true))) [])) ∧ (((c == 59) = false) → ((((c == 34) = true) → (R (TV.one (AV.fz (FV.bool true))) [])) ∧ (((c == 34) = false) → ((((c == 39) = true) → (R (TV.one (AV.fz (FV.bool true))) [])) ∧ (((c == 39) = false) → ((((c == 96) = true) → (R (TV.one (AV.fz (FV.bool true))) [])) ∧ (((c == 96) = false) → (R (TV.one (AV.fz (FV.bool (c == 44)))) [])))))))))))))))))
theorem ref02_Ends_fn (c : Int) {r : TV} {h : List Ob} (H : ref02_Ends_H (fun r' h' => r' = r ∧ h' = h) c) : Fn Tryz.prog 125 [(TV.one (AV.fz (FV.int .i64 c)))] [] r h :=
 Fn.by_tr (M := (modeOf [] [])) (lv := ref02_Ends_lv) (own := none) (F := Tryz.f125) (by kernel_rfl) (by kernel_rfl) (by first | decide | simp) (fun _ _ h => h) (by kernel_rfl) H
def ref02_one_lv : List Nat → Keep := lvOf [([0, 1, 0, 1, 1, 1, 1, 1], ⟨451, 0, [], false, false⟩)]
def ref02_one_S0 (b : LL) (at_ : Int) (c : Int) (n2 : Int) (i : Int) : St := (St.mk [(TV.one (AV.fz (FV.sl 1 b))), (TV.one (AV.fz (FV.int .i64 at_))), TV.und, TV.und, TV.und, TV.und, (TV.one (AV.fz (FV.int .i64 c))), (TV.one (AV.fz (FV.int .i64 n2))), (TV.one (AV.fz (FV.int .i64 i))), TV.und, TV.und, TV.und, TV.und, TV.und, TV.und, TV.und, TV.und, TV.und, TV.und, TV.und, TV.und, TV.und, TV.und, TV.und, TV.und, TV.und, TV.und, TV.und, TV.und, TV.und, TV.und, TV.und, TV.und, TV.und, TV.und, TV.und, TV.und, TV.und, TV.und, TV.und, TV.und, TV.und, TV.und, TV.und, TV.und, TV.und, TV.und, TV.und, TV.und, TV.und, TV.und, TV.und, TV.und, TV.und, TV.und, TV.und, TV.und, TV.und, TV.und, TV.und, TV.und, TV.und, TV.und, TV.und, TV.und, TV.und, TV.und, TV.und, TV.und, TV.und, TV.und, TV.und, TV.und, TV.und, TV.und, TV.und, TV.und, TV.und, TV.und, TV.und, TV.und, TV.und, TV.und, TV.und, TV.und, TV.und] [])
def ref02_one_L0 (R : TV → List Ob → Prop) (b : LL) (at_ : Int) (c : Int) (n2 : Int) (i : Int) : Prop := LoopAt Tryz.prog (modeOf [] []) ref02_one_lv Tryz.f126 none R [1, 1, 1, 1, 1, 0, 1, 0] (ref02_one_S0 b at_ c n2 i)
def ref02_one_R0 (R : TV → List Ob → Prop) (b : List (List FV)) (at_ : Int) (c : Int) (n2 : Int) (i : Int) : Prop :=
 ((((decide (i < n2)) = true) → (((0 : Int) ≤ (IntKind.wrap .i64 (at_ + i))) ∧ (∃ n5 : Int, (((b)[(Int.toNat (IntKind.wrap .i64 (at_ + i)))]? = (some [(FV.int .u8 n5)])) ∧ ((((decide ((IntKind.wrap .i64 n5) < 128)) = true) → (R (TV.tup [(false, [(AV.fz (FV.int .i64 0))]), (false, [(AV.fz (FV.int .i64 0))])]) [])) ∧ (((decide ((IntKind.wrap .i64 n5) < 128)) = false) → ((((decide ((192 : Int) ≤ (IntKind.wrap .i64 n5))) = true) → (R (TV.tup [(false, [(AV.fz (FV.int .i64 0))]), (false, [(AV.fz (FV.int .i64 0))])]) [])) ∧ (((decide ((192 : Int) ≤ (IntKind.wrap .i64 n5))) = false) → (ref02_one_L0 R b at_ (IntKind.wrap .i64 ((IntKind.wrap .i64 ((IntKind.wrap .i64 (c * 64)) + (IntKind.wrap .i64 n5))) - 128)) n2 (IntKind.wrap .i64 (i + 1))))))))))) ∧ (((decide (i < n2)) = false) → (∃ b4 : Bool, ((Fn Tryz.prog 132 [(TV.one (AV.fz (FV.int .i64 c)))] [] (TV.one (AV.fz (FV.bool b4))) []) ∧ ((((Bool.not b4) = true) → (R (TV.tup [(false, [(AV.fz (FV.int .i64 0))]), (false, [(AV.fz (FV.int .i64 0))])]) [])) ∧ (((Bool.not b4) = false) → (∃ es3 : LL, ((Fn Tryz.prog 133 [(TV.one (AV.fz (FV.int .i64 c)))] [] (TV.one (AV.fz (FV.sl 1 es3))) []) ∧ (((((((List.length es3) : Nat) : Int) != n2) = true) → (R (TV.tup [(false, [(AV.fz (FV.int .i64 0))]), (false, [(AV.fz (FV.int .i64 0))])]) [])) ∧ ((((((List.length es3) : Nat) : Int) != n2) = false) → (R (TV.tup [(false, [(AV.fz (FV.int .i64 c))]), (false, [(AV.fz (FV.int .i64 n2))])]) [])))))))))))
theorem ref02_one_l0 {R : TV → List Ob → Prop} {b : LL} {at_ : Int} {c : Int} {n2 : Int} {i : Int} (h : ref02_one_R0 R b at_ c n2 i) : ref02_one_L0 R b at_ c n2 i :=
 LoopAt.by_tr (by kernel_rfl) (by kernel_rfl) h
def ref02_one_H (R : TV → List Ob → Prop) (b : List (List FV)) (at_ : Int) : Prop :=
 (((0 : Int) ≤ at_) ∧ (∃ n5 : Int, (((b)[(Int.toNat at_)]? = (some [(FV.int .u8 n5)])) ∧ ((((decide ((240 : Int) ≤ (IntKind.wrap .i64 n5))) = true) → ((((decide ((IntKind.wrap .i64 n5) < 248)) = true) → ((((decide ((((List.length b) : Nat) : Int) < (IntKind.wrap .i64 (at_ + 4)))) = true) → (R (TV.tup [(false, [(AV.fz (FV.int .i64 0))]), (false, [(AV.fz (FV.int .i64 0))])]) [])) ∧ (((decide ((((List.length b) : Nat) : Int) < (IntKind.wrap .i64 (at_ + 4)))) = false) → (ref02_one_L0 R b at_ (IntKind.wrap .i64 ((IntKind.wrap .i64 n5) - 240)) 4 1)))) ∧ (((decide ((IntKind.wrap .i64 n5) < 248)) = false) → ((((decide ((224 : Int) ≤ (IntKind.wrap .i64 n5))) = true) → ((((decide ((IntKind.wrap .i64 n5) < 240)) = true) → ((((decide ((((List.length b) : Nat) : Int) < (IntKind.wrap .i64 (at_ + 3)))) = true) → (R (TV.tup [(false, [(AV.fz (FV.int .i64 0))]), (false, [(AV.fz (FV.int .i64 0))])]) [])) ∧ (((decide ((((List.length b) : Nat) : Int) < (IntKind.wrap .i64 (at_ + 3)))) = false) → (ref02_one_L0 R b at_ (IntKind.wrap .i64 ((IntKind.wrap .i64 n5) - 224)) 3 1)))) ∧ (((decide ((IntKind.wrap .i64 n5) < 240)) = false) → ((((decide ((192 : Int) ≤ (IntKind.wrap .i64 n5))) = true) → ((((decide ((IntKind.wrap .i64 n5) < 224)) = true) → ((((decide ((((List.length b) : Nat) : Int) < (IntKind.wrap .i64 (at_ + 2)))) = true) → (R (TV.tup [(false, [(AV.fz (FV.int .i64 0))]), (false, [(AV.fz (FV.int .i64 0))])]) [])) ∧ (((decide ((((List.length b) : Nat) : Int) < (IntKind.wrap .i64 (at_ + 2)))) = false) → (ref02_one_L0 R b at_ (IntKind.wrap .i64 ((IntKind.wrap .i64 n5) - 192)) 2 1)))) ∧ (((decide ((IntKind.wrap .i64 n5) < 224)) = false) → ((((decide ((128 : Int) ≤ (IntKind.wrap .i64 n5))) = true) → (R (TV.tup [(false, [(AV.fz (FV.int .i64 0))]), (false, [(AV.fz (FV.int .i64 0))])]) [])) ∧ (((decide ((128 : Int) ≤ (IntKind.wrap .i64 n5))) = false) → ((((decide ((((List.length b) : Nat) : Int) < (IntKind.wrap .i64 (at_ + 1)))) = true) → (R (TV.tup [(false, [(AV.fz (FV.int .i64 0))]), (false, [(AV.fz (FV.int .i64 0))])]) [])) ∧ (((decide ((((List.length b) : Nat) : Int) < (IntKind.wrap .i64 (at_ + 1)))) = false) → (ref02_one_L0 R b at_ (IntKind.wrap .i64 n5) 1 1)))))))) ∧ (((decide ((192 : Int) ≤ (IntKind.wrap .i64 n5))) = false) → ((((decide ((128 : Int) ≤ (IntKind.wrap .i64 n5))) = true) → (R (TV.tup [(false, [(AV.fz (FV.int .i64 0))]), (false, [(AV.fz (FV.int .i64 0))])]) [])) ∧ (((decide ((128 : Int) ≤ (IntKind.wrap .i64 n5))) = false) → ((((decide ((((List.length b) : Nat) : Int) < (IntKind.wrap .i64 (at_ + 1)))) = true) → (R (TV.tup [(false, [(AV.fz (FV.int .i64 0))]), (false, [(AV.fz (FV.int .i64 0))])]) [])) ∧ (((decide ((((List.length b) : Nat) : Int) < (IntKind.wrap .i64 (at_ + 1)))) = false) → (ref02_one_L0 R b at_ (IntKind.wrap .i64 n5) 1 1)))))))))) ∧ (((decide ((224 : Int) ≤ (IntKind.wrap .i64 n5))) = false) → ((((decide ((192 : Int) ≤ (IntKind.wrap .i64 n5))) = true) → ((((decide ((IntKind.wrap .i64 n5) < 224)) = true) → ((((decide ((((List.length b) : Nat) : Int) < (IntKind.wrap .i64 (at_ + 2)))) = true) → (R (TV.tup [(false, [(AV.fz (FV.int .i64 0))]), (false, [(AV.fz (FV.int .i64 0))])]) [])) ∧ (((decide ((((List.length b) : Nat) : Int) < (IntKind.wrap .i64 (at_ + 2)))) = false) → (ref02_one_L0 R b at_ (IntKind.wrap .i64 ((IntKind.wrap .i64 n5) - 192)) 2 1)))) ∧ (((decide ((IntKind.wrap .i64 n5) < 224)) = false) → ((((decide ((128 : Int) ≤ (IntKind.wrap .i64 n5))) = true) → (R (TV.tup [(false, [(AV.fz (FV.int .i64 0))]), (false, [(AV.fz (FV.int .i64 0))])]) [])) ∧ (((decide ((128 : Int) ≤ (IntKind.wrap .i64 n5))) = false) → ((((decide ((((List.length b) : Nat) : Int) < (IntKind.wrap .i64 (at_ + 1)))) = true) → (R (TV.tup [(false, [(AV.fz (FV.int .i64 0))]), (false, [(AV.fz (FV.int .i64 0))])]) [])) ∧ (((decide ((((List.length b) : Nat) : Int) < (IntKind.wrap .i64 (at_ + 1)))) = false) → (ref02_one_L0 R b at_ (IntKind.wrap .i64 n5) 1 1)))))))) ∧ (((decide ((192 : Int) ≤ (IntKind.wrap .i64 n5))) = false) → ((((decide ((128 : Int) ≤ (IntKind.wrap .i64 n5))) = true) → (R (TV.tup [(false, [(AV.fz (FV.int .i64 0))]), (false, [(AV.fz (FV.int .i64 0))])]) [])) ∧ (((decide ((128 : Int) ≤ (IntKind.wrap .i64 n5))) = false) → ((((decide ((((List.length b) : Nat) : Int) < (IntKind.wrap .i64 (at_ + 1)))) = true) → (R (TV.tup [(false, [(AV.fz (FV.int .i64 0))]), (false, [(AV.fz (FV.int .i64 0))])]) [])) ∧ (((decide ((((List.length b) : Nat) : Int) < (IntKind.wrap .i64 (at_ + 1)))) = false) → (ref02_one_L0 R b at_ (IntKind.wrap .i64 n5) 1 1)))))))))))) ∧ (((decide ((240 : Int) ≤ (IntKind.wrap .i64 n5))) = false) → ((((decide ((224 : Int) ≤ (IntKind.wrap .i64 n5))) = true) → ((((decide ((IntKind.wrap .i64 n5) < 240)) = true) → ((((decide ((((List.length b) : Nat) : Int) < (IntKind.wrap .i64 (at_ + 3)))) = true) → (R (TV.tup [(false, [(AV.fz (FV.int .i64 0))]), (false, [(AV.fz (FV.int .i64 0))])]) [])) ∧ (((decide ((((List.length b) : Nat) : Int) < (IntKind.wrap .i64 (at_ + 3)))) = false) → (ref02_one_L0 R b at_ (IntKind.wrap .i64 ((IntKind.wrap .i64 n5) - 224)) 3 1)))) ∧ (((decide ((IntKind.wrap .i64 n5) < 240)) = false) → ((((decide ((192 : Int) ≤ (IntKind.wrap .i64 n5))) = true) → ((((decide ((IntKind.wrap .i64 n5) < 224)) = true) → ((((decide ((((List.length b) : Nat) : Int) < (IntKind.wrap .i64 (at_ + 2)))) = true) → (R (TV.tup [(false, [(AV.fz (FV.int .i64 0))]), (false, [(AV.fz (FV.int .i64 0))])]) [])) ∧ (((decide ((((List.length b) : Nat) : Int) < (IntKind.wrap .i64 (at_ + 2)))) = false) → (ref02_one_L0 R b at_ (IntKind.wrap .i64 ((IntKind.wrap .i64 n5) - 192)) 2 1)))) ∧ (((decide ((IntKind.wrap .i64 n5) < 224)) = false) → ((((decide ((128 : Int) ≤ (IntKind.wrap .i64 n5))) = true) → (R (TV.tup [(false, [(AV.fz (FV.int .i64 0))]), (false, [(AV.fz (FV.int .i64 0))])]) [])) ∧ (((decide ((128 : Int) ≤ (IntKind.wrap .i64 n5))) = false) → ((((decide ((((List.length b) : Nat) : Int) < (IntKind.wrap .i64 (at_ + 1)))) = true) → (R (TV.tup [(false, [(AV.fz (FV.int .i64 0))]), (false, [(AV.fz (FV.int .i64 0))])]) [])) ∧ (((decide ((((List.length b) : Nat) : Int) < (IntKind.wrap .i64 (at_ + 1)))) = false) → (ref02_one_L0 R b at_ (IntKind.wrap .i64 n5) 1 1)))))))) ∧ (((decide ((192 : Int) ≤ (IntKind.wrap .i64 n5))) = false) → ((((decide ((128 : Int) ≤ (IntKind.wrap .i64 n5))) = true) → (R (TV.tup [(false, [(AV.fz (FV.int .i64 0))]), (false, [(AV.fz (FV.int .i64 0))])]) [])) ∧ (((decide ((128 : Int) ≤ (IntKind.wrap .i64 n5))) = false) → ((((decide ((((List.length b) : Nat) : Int) < (IntKind.wrap .i64 (at_ + 1)))) = true) → (R (TV.tup [(false, [(AV.fz (FV.int .i64 0))]), (false, [(AV.fz (FV.int .i64 0))])]) [])) ∧ (((decide ((((List.length b) : Nat) : Int) < (IntKind.wrap .i64 (at_ + 1)))) = false) → (ref02_one_L0 R b at_ (IntKind.wrap .i64 n5) 1 1)))))))))) ∧ (((decide ((224 : Int) ≤ (IntKind.wrap .i64 n5))) = false) → ((((decide ((192 : Int) ≤ (IntKind.wrap .i64 n5))) = true) → ((((decide ((IntKind.wrap .i64 n5) < 224)) = true) → ((((decide ((((List.length b) : Nat) : Int) < (IntKind.wrap .i64 (at_ + 2)))) = true) → (R (TV.tup [(false, [(AV.fz (FV.int .i64 0))]), (false, [(AV.fz (FV.int .i64 0))])]) [])) ∧ (((decide ((((List.length b) : Nat) : Int) < (IntKind.wrap .i64 (at_ + 2)))) = false) → (ref02_one_L0 R b at_ (IntKind.wrap .i64 ((IntKind.wrap .i64 n5) - 192)) 2 1)))) ∧ (((decide ((IntKind.wrap .i64 n5) < 224)) = false) → ((((decide ((128 : Int) ≤ (IntKind.wrap .i64 n5))) = true) → (R (TV.tup [(false, [(AV.fz (FV.int .i64 0))]), (false, [(AV.fz (FV.int .i64 0))])]) [])) ∧ (((decide ((128 : Int) ≤ (IntKind.wrap .i64 n5))) = false) → ((((decide ((((List.length b) : Nat) : Int) < (IntKind.wrap .i64 (at_ + 1)))) = true) → (R (TV.tup [(false, [(AV.fz (FV.int .i64 0))]), (false, [(AV.fz (FV.int .i64 0))])]) [])) ∧ (((decide ((((List.length b) : Nat) : Int) < (IntKind.wrap .i64 (at_ + 1)))) = false) → (ref02_one_L0 R b at_ (IntKind.wrap .i64 n5) 1 1)))))))) ∧ (((decide ((192 : Int) ≤ (IntKind.wrap .i64 n5))) = false) → ((((decide ((128 : Int) ≤ (IntKind.wrap .i64 n5))) = true) → (R (TV.tup [(false, [(AV.fz (FV.int .i64 0))]), (false, [(AV.fz (FV.int .i64 0))])]) [])) ∧ (((decide ((128 : Int) ≤ (IntKind.wrap .i64 n5))) = false) → ((((decide ((((List.length b) : Nat) : Int) < (IntKind.wrap .i64 (at_ + 1)))) = true) → (R (TV.tup [(false, [(AV.fz (FV.int .i64 0))]), (false, [(AV.fz (FV.int .i64 0))])]) [])) ∧ (((decide ((((List.length b) : Nat) : Int) < (IntKind.wrap .i64 (at_ + 1)))) = false) → (ref02_one_L0 R b at_ (IntKind.wrap .i64 n5) 1 1))))))))))))))
theorem ref02_one_fn (b : LL) (at_ : Int) {r : TV} {h : List Ob} (H : ref02_one_H (fun r' h' => r' = r ∧ h' = h) b at_) : Fn Tryz.prog 126 [(TV.one (AV.fz (FV.sl 1 b))), (TV.one (AV.fz (FV.int .i64 at_)))] [] r h :=
 Fn.by_tr (M := (modeOf [] [])) (lv := ref02_one_lv) (own := none) (F := Tryz.f126) (by kernel_rfl) (by kernel_rfl) (by first | decide | simp) (fun _ _ h => h) (by kernel_rfl) H
def ref02_Blank_lv : List Nat → Keep := lvOf []
def ref02_Blank_H (R : TV → List Ob → Prop) (c : Int) : Prop :=
 ((((c == 9) = true) → (R (TV.one (AV.fz (FV.bool true))) [])) ∧ (((c == 9) = false) → ((((c == 10) = true) → (R (TV.one (AV.fz (FV.bool true))) [])) ∧ (((c == 10) = false) → ((((c == 13) = true) → (R (TV.one (AV.fz (FV.bool true))) [])) ∧ (((c == 13) = false) → (R (TV.one (AV.fz (FV.bool (c == 32)))) [])))))))
theorem ref02_Blank_fn (c : Int) {r : TV} {h : List Ob} (H : ref02_Blank_H (fun r' h' => r' = r ∧ h' = h) c) : Fn Tryz.prog 131 [(TV.one (AV.fz (FV.int .i64 c)))] [] r h :=
 Fn.by_tr (M := (modeOf [] [])) (lv := ref02_Blank_lv) (own := none) (F := Tryz.f131) (by kernel_rfl) (by kernel_rfl) (by first | decide | simp) (fun _ _ h => h) (by kernel_rfl) H
def ref02_Scalar_lv : List Nat → Keep := lvOf []
def ref02_Scalar_H (R : TV → List Ob → Prop) (c : Int) : Prop :=
 ((((decide ((0 : Int) ≤ c)) = true) → ((((decide (c ≤ 1114111)) = true) → ((((decide ((55296 : Int) ≤ c)) = true) → (R (TV.one (AV.fz (FV.bool (Bool.not (decide (c ≤ 57343)))))) [])) ∧ (((decide ((55296 : Int) ≤ c)) = false) → (R (TV.one (AV.fz (FV.bool true))) [])))) ∧ (((decide (c ≤ 1114111)) = false) → (R (TV.one (AV.fz (FV.bool false))) [])))) ∧ (((decide ((0 : Int) ≤ c)) = false) → (R (TV.one (AV.fz (FV.bool false))) [])))
theorem ref02_Scalar_fn (c : Int) {r : TV} {h : List Ob} (H : ref02_Scalar_H (fun r' h' => r' = r ∧ h' = h) c) : Fn Tryz.prog 132 [(TV.one (AV.fz (FV.int .i64 c)))] [] r h :=
 Fn.by_tr (M := (modeOf [] [])) (lv := ref02_Scalar_lv) (own := none) (F := Tryz.f132) (by kernel_rfl) (by kernel_rfl) (by first | decide | simp) (fun _ _ h => h) (by kernel_rfl) H
def ref02_Bytes_lv : List Nat → Keep := lvOf []
def ref02_Bytes_H (R : TV → List Ob → Prop) (c : Int) : Prop :=
 ((((decide (c < 128)) = true) → (R (TV.one (AV.fz (FV.sl 1 [[(FV.int .u8 (IntKind.wrap .u8 c))]]))) [])) ∧ (((decide (c < 128)) = false) → ((((decide (c < 2048)) = true) → (((64 : Int) ≠ 0) ∧ (((64 : Int) ≠ 0) ∧ (R (TV.one (AV.fz (FV.sl 1 [[(FV.int .u8 (IntKind.wrap .u8 (IntKind.wrap .i64 (192 + (IntKind.wrap .i64 (Int.tdiv c 64))))))], [(FV.int .u8 (IntKind.wrap .u8 (IntKind.wrap .i64 (128 + (Int.tmod c 64)))))]]))) [])))) ∧ (((decide (c < 2048)) = false) → ((((decide (c < 65536)) = true) → (((4096 : Int) ≠ 0) ∧ (((64 : Int) ≠ 0) ∧ (((64 : Int) ≠ 0) ∧ (((64 : Int) ≠ 0) ∧ (R (TV.one (AV.fz (FV.sl 1 [[(FV.int .u8 (IntKind.wrap .u8 (IntKind.wrap .i64 (224 + (IntKind.wrap .i64 (Int.tdiv c 4096))))))], [(FV.int .u8 (IntKind.wrap .u8 (IntKind.wrap .i64 (128 + (Int.tmod (IntKind.wrap .i64 (Int.tdiv c 64)) 64)))))], [(FV.int .u8 (IntKind.wrap .u8 (IntKind.wrap .i64 (128 + (Int.tmod c 64)))))]]))) [])))))) ∧ (((decide (c < 65536)) = false) → (((262144 : Int) ≠ 0) ∧ (((4096 : Int) ≠ 0) ∧ (((64 : Int) ≠ 0) ∧ (((64 : Int) ≠ 0) ∧ (((64 : Int) ≠ 0) ∧ (((64 : Int) ≠ 0) ∧ (R (TV.one (AV.fz (FV.sl 1 [[(FV.int .u8 (IntKind.wrap .u8 (IntKind.wrap .i64 (240 + (IntKind.wrap .i64 (Int.tdiv c 262144))))))], [(FV.int .u8 (IntKind.wrap .u8 (IntKind.wrap .i64 (128 + (Int.tmod (IntKind.wrap .i64 (Int.tdiv c 4096)) 64)))))], [(FV.int .u8 (IntKind.wrap .u8 (IntKind.wrap .i64 (128 + (Int.tmod (IntKind.wrap .i64 (Int.tdiv c 64)) 64)))))], [(FV.int .u8 (IntKind.wrap .u8 (IntKind.wrap .i64 (128 + (Int.tmod c 64)))))]]))) [])))))))))))))
theorem ref02_Bytes_fn (c : Int) {r : TV} {h : List Ob} (H : ref02_Bytes_H (fun r' h' => r' = r ∧ h' = h) c) : Fn Tryz.prog 133 [(TV.one (AV.fz (FV.int .i64 c)))] [] r h :=
 Fn.by_tr (M := (modeOf [] [])) (lv := ref02_Bytes_lv) (own := none) (F := Tryz.f133) (by kernel_rfl) (by kernel_rfl) (by first | decide | simp) (fun _ _ h => h) (by kernel_rfl) H
def ref02_SameInts_lv : List Nat → Keep := lvOf [([0, 1, 0, 1, 1], ⟨35, 0, [], false, false⟩)]
def ref02_SameInts_S0 (a : LL) (b : LL) (i : Int) : St := (St.mk [(TV.one (AV.fz (FV.sl 1 a))), (TV.one (AV.fz (FV.sl 1 b))), TV.und, TV.und, TV.und, (TV.one (AV.fz (FV.int .i64 i))), TV.und, TV.und, TV.und, TV.und, TV.und, TV.und, TV.und, TV.und, TV.und, TV.und, TV.und, TV.und, TV.und, TV.und, TV.und, TV.und, TV.und, TV.und, TV.und, TV.und] [])
def ref02_SameInts_L0 (R : TV → List Ob → Prop) (a : LL) (b : LL) (i : Int) : Prop := LoopAt Tryz.prog (modeOf [] []) ref02_SameInts_lv Tryz.f65 none R [1, 1, 0, 1, 0] (ref02_SameInts_S0 a b i)
def ref02_SameInts_R0 (R : TV → List Ob → Prop) (a : List (List FV)) (b : List (List FV)) (i : Int) : Prop :=
 ((((decide (i < (((List.length a) : Nat) : Int))) = true) → (((0 : Int) ≤ i) ∧ (∃ n4 : Int, (((a)[(Int.toNat i)]? = (some [(FV.int .i64 n4)])) ∧ (((0 : Int) ≤ i) ∧ (∃ n5 : Int, (((b)[(Int.toNat i)]? = (some [(FV.int .i64 n5)])) ∧ ((((n4 != n5) = true) → (R (TV.one (AV.fz (FV.bool false))) [])) ∧ (((n4 != n5) = false) → (ref02_SameInts_L0 R a b (IntKind.wrap .i64 (i + 1)))))))))))) ∧ (((decide (i < (((List.length a) : Nat) : Int))) = false) → (R (TV.one (AV.fz (FV.bool true))) [])))
theorem ref02_SameInts_l0 {R : TV → List Ob → Prop} {a : LL} {b : LL} {i : Int} (h : ref02_SameInts_R0 R a b i) : ref02_SameInts_L0 R a b i :=
 LoopAt.by_tr (by kernel_rfl) (by kernel_rfl) h
def ref02_SameInts_H (R : TV → List Ob → Prop) (a : List (List FV)) (b : List (List FV)) : Prop :=
 (((((((List.length a) : Nat) : Int) != (((List.length b) : Nat) : Int)) = true) → (R (TV.one (AV.fz (FV.bool false))) [])) ∧ ((((((List.length a) : Nat) : Int) != (((List.length b) : Nat) : Int)) = false) → (ref02_SameInts_L0 R a b 0)))
theorem ref02_SameInts_fn (a : LL) (b : LL) {r : TV} {h : List Ob} (H : ref02_SameInts_H (fun r' h' => r' = r ∧ h' = h) a b) : Fn Tryz.prog 65 [(TV.one (AV.fz (FV.sl 1 a))), (TV.one (AV.fz (FV.sl 1 b)))] [] r h :=
 Fn.by_tr (M := (modeOf [] [])) (lv := ref02_SameInts_lv) (own := none) (F := Tryz.f65) (by kernel_rfl) (by kernel_rfl) (by first | decide | simp) (fun _ _ h => h) (by kernel_rfl) H
end
section
def slices_Clone_int_int_lv : List Nat → Keep := lvOf []
def slices_Clone_int_int_H (R : TV → List Ob → Prop) (s : List (List FV)) : Prop :=
 (((s = ([] : LL)) → ((R (TV.one (AV.fz (FV.sl 1 ([] : LL)))) []) ∧ (((((List.length ([] : LL)) + (List.length s)) * 8) ≤ 220000000000000) ∧ (R (TV.one (AV.fz (FV.sl 1 (([] : LL) ++ s)))) [])))) ∧ ((¬ (s = ([] : LL))) → (((false = true) → (R (TV.one (AV.fz (FV.sl 1 ([] : LL)))) [])) ∧ ((false = false) → (((((List.length ([] : LL)) + (List.length s)) * 8) ≤ 220000000000000) ∧ (R (TV.one (AV.fz (FV.sl 1 (([] : LL) ++ s)))) []))))))
theorem slices_Clone_int_int_fn (s : LL) {r : TV} {h : List Ob} (H : slices_Clone_int_int_H (fun r' h' => r' = r ∧ h' = h) s) : Fn Tryz.prog 79 [(TV.one (AV.fz (FV.sl 1 s)))] [] r h :=
 Fn.by_tr (M := (modeOf [] [])) (lv := slices_Clone_int_int_lv) (own := none) (F := Tryz.f79) (by kernel_rfl) (by kernel_rfl) (by first | decide | simp) (fun _ _ h => h) (by kernel_rfl) H
def slices_ContainsFunc_api_Datum_api_Datum_lv : List Nat → Keep := lvOf []
def slices_ContainsFunc_api_Datum_api_Datum_H (R : TV → List Ob → Prop) (s : List (List FV)) (f : FV) : Prop :=
 (∃ n1 : Int, ((Fn Tryz.prog 121 [(TV.one (AV.fz (FV.sl 6 s))), (TV.one (AV.fz f))] [] (TV.one (AV.fz (FV.int .i64 n1))) []) ∧ (R (TV.one (AV.fz (FV.bool (decide ((0 : Int) ≤ n1))))) [])))
theorem slices_ContainsFunc_api_Datum_api_Datum_fn (s : LL) (f : FV) {r : TV} {h : List Ob} (H : slices_ContainsFunc_api_Datum_api_Datum_H (fun r' h' => r' = r ∧ h' = h) s f) : Fn Tryz.prog 111 [(TV.one (AV.fz (FV.sl 6 s))), (TV.one (AV.fz f))] [] r h :=
 Fn.by_tr (M := (modeOf [] [])) (lv := slices_ContainsFunc_api_Datum_api_Datum_lv) (own := none) (F := Tryz.f111) (by kernel_rfl) (by kernel_rfl) (by first | decide | simp) (fun _ _ h => h) (by kernel_rfl) H
def slices_ContainsFunc_api_Stx_api_Stx_lv : List Nat → Keep := lvOf []
def slices_ContainsFunc_api_Stx_api_Stx_H (R : TV → List Ob → Prop) (s : List (List FV)) (f : FV) : Prop :=
 (∃ n1 : Int, ((Fn Tryz.prog 122 [(TV.one (AV.fz (FV.sl 8 s))), (TV.one (AV.fz f))] [] (TV.one (AV.fz (FV.int .i64 n1))) []) ∧ (R (TV.one (AV.fz (FV.bool (decide ((0 : Int) ≤ n1))))) [])))
theorem slices_ContainsFunc_api_Stx_api_Stx_fn (s : LL) (f : FV) {r : TV} {h : List Ob} (H : slices_ContainsFunc_api_Stx_api_Stx_H (fun r' h' => r' = r ∧ h' = h) s f) : Fn Tryz.prog 112 [(TV.one (AV.fz (FV.sl 8 s))), (TV.one (AV.fz f))] [] r h :=
 Fn.by_tr (M := (modeOf [] [])) (lv := slices_ContainsFunc_api_Stx_api_Stx_lv) (own := none) (F := Tryz.f112) (by kernel_rfl) (by kernel_rfl) (by first | decide | simp) (fun _ _ h => h) (by kernel_rfl) H
def slices_ContainsFunc_int_int_lv : List Nat → Keep := lvOf []
def slices_ContainsFunc_int_int_H (R : TV → List Ob → Prop) (s : List (List FV)) (f : FV) : Prop :=
 (∃ n1 : Int, ((Fn Tryz.prog 150 [(TV.one (AV.fz (FV.sl 1 s))), (TV.one (AV.fz f))] [] (TV.one (AV.fz (FV.int .i64 n1))) []) ∧ (R (TV.one (AV.fz (FV.bool (decide ((0 : Int) ≤ n1))))) [])))
theorem slices_ContainsFunc_int_int_fn (s : LL) (f : FV) {r : TV} {h : List Ob} (H : slices_ContainsFunc_int_int_H (fun r' h' => r' = r ∧ h' = h) s f) : Fn Tryz.prog 137 [(TV.one (AV.fz (FV.sl 1 s))), (TV.one (AV.fz f))] [] r h :=
 Fn.by_tr (M := (modeOf [] [])) (lv := slices_ContainsFunc_int_int_lv) (own := none) (F := Tryz.f137) (by kernel_rfl) (by kernel_rfl) (by first | decide | simp) (fun _ _ h => h) (by kernel_rfl) H
def slices_Equal_int_int_lv : List Nat → Keep := lvOf [([0, 1, 0, 1, 1], ⟨12291, 0, [], false, false⟩)]
def slices_Equal_int_int_S0 (s1 : LL) (s2 : LL) (i : Int) : St := (St.mk [(TV.one (AV.fz (FV.sl 1 s1))), (TV.one (AV.fz (FV.sl 1 s2))), TV.und, TV.und, TV.und, TV.und, TV.und, TV.und, TV.und, TV.und, TV.und, TV.und, (TV.one (AV.fz (FV.int .i64 (((List.length s1) : Nat) : Int)))), (TV.one (AV.fz (FV.int .i64 i))), TV.und, TV.und, TV.und, TV.und, TV.und, TV.und, TV.und, TV.und, TV.und, TV.und, TV.und, TV.und] [])
def slices_Equal_int_int_L0 (R : TV → List Ob → Prop) (s1 : LL) (s2 : LL) (i : Int) : Prop := LoopAt Tryz.prog (modeOf [] []) slices_Equal_int_int_lv Tryz.f81 none R [1, 1, 0, 1, 0] (slices_Equal_int_int_S0 s1 s2 i)
def slices_Equal_int_int_R0 (R : TV → List Ob → Prop) (s1 : List (List FV)) (s2 : List (List FV)) (i : Int) : Prop :=
 ((((decide (i < (((List.length s1) : Nat) : Int))) = true) → (((0 : Int) ≤ i) ∧ (∃ n4 : Int, (((s1)[(Int.toNat i)]? = (some [(FV.int .i64 n4)])) ∧ (((0 : Int) ≤ i) ∧ (∃ n5 : Int, (((s2)[(Int.toNat i)]? = (some [(FV.int .i64 n5)])) ∧ ((((n4 != n5) = true) → (R (TV.one (AV.fz (FV.bool false))) [])) ∧ (((n4 != n5) = false) → (slices_Equal_int_int_L0 R s1 s2 (IntKind.wrap .i64 (i + 1)))))))))))) ∧ (((decide (i < (((List.length s1) : Nat) : Int))) = false) → (R (TV.one (AV.fz (FV.bool true))) [])))
theorem slices_Equal_int_int_l0 {R : TV → List Ob → Prop} {s1 : LL} {s2 : LL} {i : Int} (h : slices_Equal_int_int_R0 R s1 s2 i) : slices_Equal_int_int_L0 R s1 s2 i :=
 LoopAt.by_tr (by kernel_rfl) (by kernel_rfl) h
def slices_Equal_int_int_H (R : TV → List Ob → Prop) (s1 : List (List FV)) (s2 : List (List FV)) : Prop :=
 (((((((List.length s1) : Nat) : Int) != (((List.length s2) : Nat) : Int)) = true) → (R (TV.one (AV.fz (FV.bool false))) [])) ∧ ((((((List.length s1) : Nat) : Int) != (((List.length s2) : Nat) : Int)) = false) → (slices_Equal_int_int_L0 R s1 s2 0)))
theorem slices_Equal_int_int_fn (s1 : LL) (s2 : LL) {r : TV} {h : List Ob} (H : slices_Equal_int_int_H (fun r' h' => r' = r ∧ h' = h) s1 s2) : Fn Tryz.prog 81 [(TV.one (AV.fz (FV.sl 1 s1))), (TV.one (AV.fz (FV.sl 1 s2)))] [] r h :=
 Fn.by_tr (M := (modeOf [] [])) (lv := slices_Equal_int_int_lv) (own := none) (F := Tryz.f81) (by kernel_rfl) (by kernel_rfl) (by first | decide | simp) (fun _ _ h => h) (by kernel_rfl) H
def slices_Clone_uint32_uint32_lv : List Nat → Keep := lvOf []
def slices_Clone_uint32_uint32_H (R : TV → List Ob → Prop) (s : List (List FV)) : Prop :=
 (((s = ([] : LL)) → ((R (TV.one (AV.fz (FV.sl 1 ([] : LL)))) []) ∧ (((((List.length ([] : LL)) + (List.length s)) * 4) ≤ 220000000000000) ∧ (R (TV.one (AV.fz (FV.sl 1 (([] : LL) ++ s)))) [])))) ∧ ((¬ (s = ([] : LL))) → (((false = true) → (R (TV.one (AV.fz (FV.sl 1 ([] : LL)))) [])) ∧ ((false = false) → (((((List.length ([] : LL)) + (List.length s)) * 4) ≤ 220000000000000) ∧ (R (TV.one (AV.fz (FV.sl 1 (([] : LL) ++ s)))) []))))))
theorem slices_Clone_uint32_uint32_fn (s : LL) {r : TV} {h : List Ob} (H : slices_Clone_uint32_uint32_H (fun r' h' => r' = r ∧ h' = h) s) : Fn Tryz.prog 98 [(TV.one (AV.fz (FV.sl 1 s)))] [] r h :=
 Fn.by_tr (M := (modeOf [] [])) (lv := slices_Clone_uint32_uint32_lv) (own := none) (F := Tryz.f98) (by kernel_rfl) (by kernel_rfl) (by first | decide | simp) (fun _ _ h => h) (by kernel_rfl) H
def ixOther_lv : List Nat → Keep := lvOf [([0, 1, 0, 1], ⟨387, 0, [], false, false⟩)]
def ixOther_S0 (s : LL) (i : Int) : St := (St.mk [(TV.one (AV.fz (FV.sl 6 s))), (TV.one (AV.fz (FV.fn 94 []))), TV.und, TV.und, TV.und, TV.und, TV.und, (TV.one (AV.fz (FV.int .i64 (((List.length s) : Nat) : Int)))), (TV.one (AV.fz (FV.int .i64 i))), TV.und, TV.und, TV.und, TV.und, TV.und, TV.und, TV.und, TV.und, TV.und, TV.und] [])
def ixOther_L0 (R : TV → List Ob → Prop) (s : LL) (i : Int) : Prop := LoopAt Tryz.prog (modeOf [] []) ixOther_lv Tryz.f121 none R [1, 0, 1, 0] (ixOther_S0 s i)
def ixOther_R0 (R : TV → List Ob → Prop) (s : List (List FV)) (i : Int) : Prop :=
 ((((decide (i < (((List.length s) : Nat) : Int))) = true) → (((0 : Int) ≤ i) ∧ (∃ n4 : Int, (∃ s3 : ByteArray, (∃ b4 : Bool, (∃ es4 : LL, (∃ es5 : LL, (∃ n5 : Int, (((s)[(Int.toNat i)]? = (some [(FV.int .i64 n4), (FV.str s3), (FV.bool b4), (FV.sl 1 es4), (FV.sl 6 es5), (FV.int .i64 n5)])) ∧ (∃ b5 : Bool, ((Fn Tryz.prog 94 [(TV.agg [(AV.fz (FV.int .i64 n4)), (AV.fz (FV.str s3)), (AV.fz (FV.bool b4)), (AV.fz (FV.sl 1 es4)), (AV.fz (FV.sl 6 es5)), (AV.fz (FV.int .i64 n5))])] [] (TV.one (AV.fz (FV.bool b5))) []) ∧ (((b5 = true) → (R (TV.one (AV.fz (FV.int .i64 i))) [])) ∧ ((b5 = false) → (ixOther_L0 R s (IntKind.wrap .i64 (i + 1)))))))))))))))) ∧ (((decide (i < (((List.length s) : Nat) : Int))) = false) → (R (TV.one (AV.fz (FV.int .i64 (-1)))) [])))
theorem ixOther_l0 {R : TV → List Ob → Prop} {s : List (List FV)} {i : Int} (h : ixOther_R0 R s i) : ixOther_L0 R s i :=
 LoopAt.by_tr (by kernel_rfl) (by kernel_rfl) h
def ixOther_H (R : TV → List Ob → Prop) (s : List (List FV)) : Prop :=
 (ixOther_L0 R s 0)
theorem ixOther_fn (s : LL) {r : TV} {h : List Ob} (H : ixOther_H (fun r' h' => r' = r ∧ h' = h) s) : Fn Tryz.prog 121 [(TV.one (AV.fz (FV.sl 6 s))), (TV.one (AV.fz (FV.fn 94 [])))] [] r h :=
 Fn.by_tr (M := (modeOf [] [])) (lv := ixOther_lv) (own := none) (F := Tryz.f121) (by kernel_rfl) (by kernel_rfl) (by first | decide | simp) (fun _ _ h => h) (by kernel_rfl) H
def ixShallow_lv : List Nat → Keep := lvOf [([0, 1, 0, 1], ⟨387, 0, [], false, false⟩)]
def ixShallow_S0 (s : LL) (room : Int) (i : Int) : St := (St.mk [(TV.one (AV.fz (FV.sl 8 s))), (TV.one (AV.fz (FV.fn 113 [(false, [(FV.fp [(FV.int .i64 room)])])]))), TV.und, TV.und, TV.und, TV.und, TV.und, (TV.one (AV.fz (FV.int .i64 (((List.length s) : Nat) : Int)))), (TV.one (AV.fz (FV.int .i64 i))), TV.und, TV.und, TV.und, TV.und, TV.und, TV.und, TV.und, TV.und, TV.und, TV.und] [])
def ixShallow_L0 (R : TV → List Ob → Prop) (s : LL) (room : Int) (i : Int) : Prop := LoopAt Tryz.prog (modeOf [] []) ixShallow_lv Tryz.f122 none R [1, 0, 1, 0] (ixShallow_S0 s room i)
def ixShallow_R0 (R : TV → List Ob → Prop) (s : List (List FV)) (room : Int) (i : Int) : Prop :=
 ((((decide (i < (((List.length s) : Nat) : Int))) = true) → (((0 : Int) ≤ i) ∧ (∃ n4 : Int, (∃ s3 : ByteArray, (∃ b4 : Bool, (∃ es8 : LL, (∃ es9 : LL, (∃ n5 : Int, (∃ es10 : LL, (∃ es11 : LL, (((s)[(Int.toNat i)]? = (some [(FV.int .i64 n4), (FV.str s3), (FV.bool b4), (FV.sl 1 es8), (FV.sl 8 es9), (FV.int .i64 n5), (FV.sl 1 es10), (FV.sl 1 es11)])) ∧ (∃ b5 : Bool, ((Fn Tryz.prog 113 [(TV.agg [(AV.fz (FV.int .i64 n4)), (AV.fz (FV.str s3)), (AV.fz (FV.bool b4)), (AV.fz (FV.sl 1 es8)), (AV.fz (FV.sl 8 es9)), (AV.fz (FV.int .i64 n5)), (AV.fz (FV.sl 1 es10)), (AV.fz (FV.sl 1 es11))]), (TV.one (AV.fz (FV.fp [(FV.int .i64 room)])))] [] (TV.one (AV.fz (FV.bool b5))) []) ∧ (((b5 = true) → (R (TV.one (AV.fz (FV.int .i64 i))) [])) ∧ ((b5 = false) → (ixShallow_L0 R s room (IntKind.wrap .i64 (i + 1)))))))))))))))))) ∧ (((decide (i < (((List.length s) : Nat) : Int))) = false) → (R (TV.one (AV.fz (FV.int .i64 (-1)))) [])))
theorem ixShallow_l0 {R : TV → List Ob → Prop} {s : List (List FV)} {room : Int} {i : Int} (h : ixShallow_R0 R s room i) : ixShallow_L0 R s room i :=
 LoopAt.by_tr (by kernel_rfl) (by kernel_rfl) h
def ixShallow_H (R : TV → List Ob → Prop) (s : List (List FV)) (room : Int) : Prop :=
 (ixShallow_L0 R s room 0)
theorem ixShallow_fn (s : LL) (room : Int) {r : TV} {h : List Ob} (H : ixShallow_H (fun r' h' => r' = r ∧ h' = h) s room) : Fn Tryz.prog 122 [(TV.one (AV.fz (FV.sl 8 s))), (TV.one (AV.fz (FV.fn 113 [(false, [(FV.fp [(FV.int .i64 room)])])])))] [] r h :=
 Fn.by_tr (M := (modeOf [] [])) (lv := ixShallow_lv) (own := none) (F := Tryz.f122) (by kernel_rfl) (by kernel_rfl) (by first | decide | simp) (fun _ _ h => h) (by kernel_rfl) H
def ixJoined_lv : List Nat → Keep := lvOf [([0, 1, 0, 1], ⟨387, 0, [], false, false⟩)]
def ixJoined_S0 (s : LL) (m : LL) (u : LL) (i : Int) : St := (St.mk [(TV.one (AV.fz (FV.sl 8 s))), (TV.one (AV.fz (FV.fn 114 [(false, [(FV.fp [(FV.sl 1 m), (FV.sl 1 u)])])]))), TV.und, TV.und, TV.und, TV.und, TV.und, (TV.one (AV.fz (FV.int .i64 (((List.length s) : Nat) : Int)))), (TV.one (AV.fz (FV.int .i64 i))), TV.und, TV.und, TV.und, TV.und, TV.und, TV.und, TV.und, TV.und, TV.und, TV.und] [])
def ixJoined_L0 (R : TV → List Ob → Prop) (s : LL) (m : LL) (u : LL) (i : Int) : Prop := LoopAt Tryz.prog (modeOf [] []) ixJoined_lv Tryz.f122 none R [1, 0, 1, 0] (ixJoined_S0 s m u i)
def ixJoined_R0 (R : TV → List Ob → Prop) (s : List (List FV)) (m : List (List FV)) (u : List (List FV)) (i : Int) : Prop :=
 ((((decide (i < (((List.length s) : Nat) : Int))) = true) → (((0 : Int) ≤ i) ∧ (∃ n4 : Int, (∃ s3 : ByteArray, (∃ b4 : Bool, (∃ es8 : LL, (∃ es9 : LL, (∃ n5 : Int, (∃ es10 : LL, (∃ es11 : LL, (((s)[(Int.toNat i)]? = (some [(FV.int .i64 n4), (FV.str s3), (FV.bool b4), (FV.sl 1 es8), (FV.sl 8 es9), (FV.int .i64 n5), (FV.sl 1 es10), (FV.sl 1 es11)])) ∧ (∃ b5 : Bool, ((Fn Tryz.prog 114 [(TV.agg [(AV.fz (FV.int .i64 n4)), (AV.fz (FV.str s3)), (AV.fz (FV.bool b4)), (AV.fz (FV.sl 1 es8)), (AV.fz (FV.sl 8 es9)), (AV.fz (FV.int .i64 n5)), (AV.fz (FV.sl 1 es10)), (AV.fz (FV.sl 1 es11))]), (TV.one (AV.fz (FV.fp [(FV.sl 1 m), (FV.sl 1 u)])))] [] (TV.one (AV.fz (FV.bool b5))) []) ∧ (((b5 = true) → (R (TV.one (AV.fz (FV.int .i64 i))) [])) ∧ ((b5 = false) → (ixJoined_L0 R s m u (IntKind.wrap .i64 (i + 1)))))))))))))))))) ∧ (((decide (i < (((List.length s) : Nat) : Int))) = false) → (R (TV.one (AV.fz (FV.int .i64 (-1)))) [])))
theorem ixJoined_l0 {R : TV → List Ob → Prop} {s : LL} {m : LL} {u : LL} {i : Int} (h : ixJoined_R0 R s m u i) : ixJoined_L0 R s m u i :=
 LoopAt.by_tr (by kernel_rfl) (by kernel_rfl) h
def ixJoined_H (R : TV → List Ob → Prop) (s : List (List FV)) (m : List (List FV)) (u : List (List FV)) : Prop :=
 (ixJoined_L0 R s m u 0)
theorem ixJoined_fn (s : LL) (m : LL) (u : LL) {r : TV} {h : List Ob} (H : ixJoined_H (fun r' h' => r' = r ∧ h' = h) s m u) : Fn Tryz.prog 122 [(TV.one (AV.fz (FV.sl 8 s))), (TV.one (AV.fz (FV.fn 114 [(false, [(FV.fp [(FV.sl 1 m), (FV.sl 1 u)])])])))] [] r h :=
 Fn.by_tr (M := (modeOf [] [])) (lv := ixJoined_lv) (own := none) (F := Tryz.f122) (by kernel_rfl) (by kernel_rfl) (by first | decide | simp) (fun _ _ h => h) (by kernel_rfl) H
def ixEnds_lv : List Nat → Keep := lvOf [([0, 1, 0, 1], ⟨387, 0, [], false, false⟩)]
def ixEnds_S0 (s : LL) (i : Int) : St := (St.mk [(TV.one (AV.fz (FV.sl 1 s))), (TV.one (AV.fz (FV.fn 138 []))), TV.und, TV.und, TV.und, TV.und, TV.und, (TV.one (AV.fz (FV.int .i64 (((List.length s) : Nat) : Int)))), (TV.one (AV.fz (FV.int .i64 i))), TV.und, TV.und, TV.und, TV.und, TV.und, TV.und, TV.und, TV.und, TV.und, TV.und] [])
def ixEnds_L0 (R : TV → List Ob → Prop) (s : LL) (i : Int) : Prop := LoopAt Tryz.prog (modeOf [] []) ixEnds_lv Tryz.f150 none R [1, 0, 1, 0] (ixEnds_S0 s i)
def ixEnds_R0 (R : TV → List Ob → Prop) (s : List (List FV)) (i : Int) : Prop :=
 ((((decide (i < (((List.length s) : Nat) : Int))) = true) → (((0 : Int) ≤ i) ∧ (∃ n2 : Int, (((s)[(Int.toNat i)]? = (some [(FV.int .i64 n2)])) ∧ (∃ b2 : Bool, ((Fn Tryz.prog 138 [(TV.one (AV.fz (FV.int .i64 n2)))] [] (TV.one (AV.fz (FV.bool b2))) []) ∧ (((b2 = true) → (R (TV.one (AV.fz (FV.int .i64 i))) [])) ∧ ((b2 = false) → (ixEnds_L0 R s (IntKind.wrap .i64 (i + 1))))))))))) ∧ (((decide (i < (((List.length s) : Nat) : Int))) = false) → (R (TV.one (AV.fz (FV.int .i64 (-1)))) [])))
theorem ixEnds_l0 {R : TV → List Ob → Prop} {s : List (List FV)} {i : Int} (h : ixEnds_R0 R s i) : ixEnds_L0 R s i :=
 LoopAt.by_tr (by kernel_rfl) (by kernel_rfl) h
def ixEnds_H (R : TV → List Ob → Prop) (s : List (List FV)) : Prop :=
 (ixEnds_L0 R s 0)
theorem ixEnds_fn (s : LL) {r : TV} {h : List Ob} (H : ixEnds_H (fun r' h' => r' = r ∧ h' = h) s) : Fn Tryz.prog 150 [(TV.one (AV.fz (FV.sl 1 s))), (TV.one (AV.fz (FV.fn 138 [])))] [] r h :=
 Fn.by_tr (M := (modeOf [] [])) (lv := ixEnds_lv) (own := none) (F := Tryz.f150) (by kernel_rfl) (by kernel_rfl) (by first | decide | simp) (fun _ _ h => h) (by kernel_rfl) H
end
section
open Go Go.RowKit
theorem flat2 {α : Type} (f g : Nat → α) : ∀ (n : Nat), (((List.range n).map fun i => [f i, g i]).flatten).length = 2 * n ∧ ∀ i, i < n → (((List.range n).map fun i => [f i, g i]).flatten)[2 * i]? = some (f i) ∧ (((List.range n).map fun i => [f i, g i]).flatten)[2 * i + 1]? = some (g i)
 | 0 => ⟨rfl, fun i h => by omega⟩
 | n + 1 => by
  obtain ⟨h1, h2⟩ := flat2 f g n
  rw [List.range_succ, List.map_append, List.flatten_append]
  refine ⟨by rw [List.length_append, h1]; simp; omega, fun i hi => ?_⟩
  by_cases h : i < n
  ·rw [List.getElem?_append_left (by omega), List.getElem?_append_left (by omega)]
   exact h2 i h
  ·have : i = n := by omega
   subst this
   rw [List.getElem?_append_right (by omega), List.getElem?_append_right (by omega), h1]
   simp
theorem utf_tabs {w : World} (h : Glob w) : Lib.Utf8Tabs 0 1 w := by
 constructor
 ·intro c hc
  have h1 := h (0, (List.range 256).map fun c => FV.int .u8 ((Go.Lib.firstT c : Nat) : Int)) (by simp [tabs])
  obtain ⟨cs, t, z, h2, h3, h4⟩ := h1
  obtain ⟨v, hv, hr⟩ := h4 c (.int .u8 ((Go.Lib.firstT c : Nat) : Int)) (by simp [hc])
  cases hr
  simp only at h2
  simp [World.cell?, h2, hv]
 ·intro i hi
  have h1 := h (1, ((List.range 16).map fun i => [FV.int .u8 ((Go.Lib.accLo i : Nat) : Int), FV.int .u8 ((Go.Lib.accHi i : Nat) : Int)]).flatten) (by simp [tabs])
  obtain ⟨cs, t, z, h2, h3, h4⟩ := h1
  have hf := (flat2 (fun i => FV.int .u8 ((Go.Lib.accLo i : Nat) : Int)) (fun i => FV.int .u8 ((Go.Lib.accHi i : Nat) : Int)) 16).2 i hi
  obtain ⟨v, hv, hr⟩ := h4 (2 * i) _ hf.1
  obtain ⟨v', hv', hr'⟩ := h4 (2 * i + 1) _ hf.2
  cases hr; cases hr'
  simp only at h2
  simp [World.cell?, h2, hv, hv']
def chN (n b0 b1 b2 b3 : Int) : Int × Int :=
 if b0 < 128 then (b0, 1)
 else if 192 ≤ b0 ∧ b0 < 224 then (if 2 ≤ n ∧ 128 ≤ b1 ∧ b1 < 192 ∧ 128 ≤ (b0 - 192) * 64 + b1 - 128 then ((b0 - 192) * 64 + b1 - 128, 2) else (0, 0))
 else if 224 ≤ b0 ∧ b0 < 240 then
  (if 3 ≤ n ∧ 128 ≤ b1 ∧ b1 < 192 ∧ 128 ≤ b2 ∧ b2 < 192 ∧ 2048 ≤ ((b0 - 224) * 64 + b1 - 128) * 64 + b2 - 128 ∧ ¬ (55296 ≤ ((b0 - 224) * 64 + b1 - 128) * 64 + b2 - 128 ∧ ((b0 - 224) * 64 + b1 - 128) * 64 + b2 - 128 ≤ 57343)
   then (((b0 - 224) * 64 + b1 - 128) * 64 + b2 - 128, 3) else (0, 0))
 else if 240 ≤ b0 ∧ b0 < 248 then
  (if 4 ≤ n ∧ 128 ≤ b1 ∧ b1 < 192 ∧ 128 ≤ b2 ∧ b2 < 192 ∧ 128 ≤ b3 ∧ b3 < 192 ∧ 65536 ≤ (((b0 - 240) * 64 + b1 - 128) * 64 + b2 - 128) * 64 + b3 - 128 ∧ (((b0 - 240) * 64 + b1 - 128) * 64 + b2 - 128) * 64 + b3 - 128 ≤ 1114111
   then ((((b0 - 240) * 64 + b1 - 128) * 64 + b2 - 128) * 64 + b3 - 128, 4) else (0, 0))
 else (0, 0)
def ch1 (l : List Int) : Int × Int := chN l.length (rd l 0) (rd l 1) (rd l 2) (rd l 3)
theorem decodeN_chN' (n b0 b1 b2 b3 : Nat) (h0 : b0 < 256) (h1 : b1 < 256) (h2 : b2 < 256) (h3 : b3 < 256) (p : Nat × Nat) (hp : Lib.decodeN n b0 b1 b2 b3 = p) (q : Int × Int) (hq : chN n b0 b1 b2 b3 = q) :
  (q.1 = 0 ∧ q.2 = 0 ∧ p.1 = 65533 ∧ p.2 = 1) ∨ (q.1 = (p.1 : Int) ∧ q.2 = (p.2 : Int) ∧ ¬ (p.1 = 65533 ∧ p.2 < 2)) := by
 unfold Lib.decodeN at hp
 unfold chN at hq
 repeat' split at hp
 all_goals subst hp
 all_goals repeat' split at hq
 all_goals subst hq
 all_goals first | (exfalso; omega) | (refine .inl ⟨rfl, rfl, rfl, rfl⟩) | (refine .inr ⟨?_, ?_, ?_⟩ <;> simp only <;> omega)
theorem decodeN_chN (n b0 b1 b2 b3 : Nat) (h0 : b0 < 256) (h1 : b1 < 256) (h2 : b2 < 256) (h3 : b3 < 256) :
  (chN n b0 b1 b2 b3 = (0, 0) ∧ Lib.decodeN n b0 b1 b2 b3 = (65533, 1)) ∨ (chN n b0 b1 b2 b3 = (((Lib.decodeN n b0 b1 b2 b3).1 : Int), ((Lib.decodeN n b0 b1 b2 b3).2 : Int)) ∧ ¬ ((Lib.decodeN n b0 b1 b2 b3).1 = 65533 ∧ (Lib.decodeN n b0 b1 b2 b3).2 < 2)) := by
 rcases decodeN_chN' n b0 b1 b2 b3 h0 h1 h2 h3 _ rfl _ rfl with ⟨e1, e2, e3, e4⟩ | ⟨e1, e2, e3⟩
 ·exact .inl ⟨Prod.ext e1 e2, Prod.ext e3 e4⟩
 ·exact .inr ⟨Prod.ext e1 e2, e3⟩
theorem rd_byte {l : List Int} (h : Bytes l) (i : Nat) : 0 ≤ rd l i ∧ rd l i < 256 := by
 by_cases hi : i < l.length
 ·rw [rd_at l i hi]; exact h _ (List.getElem_mem _)
 ·unfold rd; rw [List.getD_eq_getElem?_getD, List.getElem?_eq_none (by omega)]; simp
theorem get_of {l : List Int} (h : Bytes l) (i : Nat) : ((bytesOf l).get! i).toNat = (rd l i).toNat := by
 have e : (bytesOf l).get! i = ((bytesOf l).data[i]?).getD default := by
  show (bytesOf l).data[i]! = _
  rw [getElem!_def]
  cases (bytesOf l).data[i]? <;> rfl
 rw [e]
 by_cases hi : i < l.length
 ·obtain ⟨c, hc, hcn⟩ := byte_at h hi
  rw [hc, Option.getD_some, ← hcn]; rfl
 ·have hn : (bytesOf l).data[i]? = none := by
   rw [Array.getElem?_eq_none]
   have h1 := size_of l
   have h2 : (bytesOf l).data.size = (bytesOf l).size := rfl
   omega
  rw [hn]
  unfold rd; rw [List.getD_eq_getElem?_getD, List.getElem?_eq_none (by omega)]; rfl
def deR (l : List Int) : Int := ((Lib.decodeGo (bytesOf l)).1 : Int)
def deN (l : List Int) : Int := ((Lib.decodeGo (bytesOf l)).2 : Int)
theorem de_ch1 {l : List Int} (h : Bytes l) (hne : l ≠ []) : (ch1 l = (0, 0) ∧ deR l = 65533 ∧ deN l = 1) ∨ (ch1 l = (deR l, deN l) ∧ ¬ (deR l = 65533 ∧ deN l < 2)) := by
 have hs : (bytesOf l).size = l.length := size_of l
 have hl : l.length ≠ 0 := fun h => hne (List.length_eq_zero_iff.1 h)
 have e : Lib.decodeGo (bytesOf l) = Lib.decodeN l.length (rd l 0).toNat (rd l 1).toNat (rd l 2).toNat (rd l 3).toNat := by
  unfold Lib.decodeGo
  rw [if_neg (by omega), Lib.decode_at, hs]
  simp only [Nat.sub_zero, Nat.zero_add, get_of h]
 unfold deR deN ch1
 rw [e]
 have b0 := rd_byte h 0; have b1 := rd_byte h 1; have b2 := rd_byte h 2; have b3 := rd_byte h 3
 have k := decodeN_chN l.length (rd l 0).toNat (rd l 1).toNat (rd l 2).toNat (rd l 3).toNat (by omega) (by omega) (by omega) (by omega)
 rw [Int.toNat_of_nonneg b0.1, Int.toNat_of_nonneg b1.1, Int.toNat_of_nonneg b2.1, Int.toNat_of_nonneg b3.1] at k
 rcases k with ⟨k1, k2⟩ | ⟨k1, k2⟩
 ·left
  exact ⟨k1, by rw [k2]; rfl, by rw [k2]; rfl⟩
 ·right
  exact ⟨k1, by omega⟩
theorem chN_bounds (n b0 b1 b2 b3 : Int) (h0 : 0 ≤ b0) (h1 : b0 < 256) (hn : 1 ≤ n) : 0 ≤ (chN n b0 b1 b2 b3).1 ∧ (chN n b0 b1 b2 b3).1 ≤ 1114111 ∧ 0 ≤ (chN n b0 b1 b2 b3).2 ∧ (chN n b0 b1 b2 b3).2 ≤ n ∧ (chN n b0 b1 b2 b3).2 ≤ 4 := by
 unfold chN
 repeat' split
 all_goals (simp only; omega)
theorem ch1_bounds {l : List Int} (h : Bytes l) (hne : l ≠ []) : 0 ≤ (ch1 l).1 ∧ (ch1 l).1 ≤ 1114111 ∧ 0 ≤ (ch1 l).2 ∧ (ch1 l).2 ≤ l.length ∧ (ch1 l).2 ≤ 4 := by
 have hl : l.length ≠ 0 := fun h => hne (List.length_eq_zero_iff.1 h)
 have b0 := rd_byte h 0
 exact chN_bounds _ _ _ _ _ b0.1 b0.2 (by omega)
theorem DecodeRune_fn {l : List Int} (h : Bytes l) (hne : l ≠ []) : Fn Tryz.prog 148 [fzS .u8 l] [] (.tup [(false, [.fz (.int .i32 (deR l))]), (false, [.fz (.int .i64 (deN l))])]) [] := by
 intro ext w locs vals H hsz hrep
 obtain ⟨v, hv, hr⟩ := hrep 0 _ rfl
 have e : vals = #[v] := by
  apply Array.ext
  ·simpa using hsz
  ·intro i h1 h2
   have : i = 0 := by simp at h2; omega
   subst this
   rw [Array.getElem?_eq_getElem h1] at hv
   simpa using hv
 subst e
 replace hr : RF w (Bar ext locs []) (.sl 1 (ints .u8 l)) v := hr
 clear hrep hsz hv
 generalize hL : ints .u8 l = L at hr
 cases hr with
 | slN sz a c => exact absurd (ints_eq_nil.1 hL) hne
 | sl es b off c sz cv hb hc hsz hcell hr =>
  subst hL
  have hs : (bytesOf l).size = (ints .u8 l).length := by rw [size_of, ints_len]
  have key := Tryz.utf8_DecodeRune (bytesOf l) b off c w (utf_tabs H.glob) (fun j hj => by
   rw [size_of] at hj
   have hg : (ints .u8 l)[j]? = some [.int .u8 (rd l j)] := by simp [ints, rd_at l j hj, hj]
   have h1 := hcell j _ 0 _ hg rfl
   have h2 := hr j _ 0 _ hg rfl
   rw [Nat.mul_one, Nat.add_zero] at h1
   rw [h1]
   generalize cv j 0 = u at h2
   cases h2
   rw [get_of h, Int.toNat_of_nonneg (rd_byte h j).1])
  rw [hs] at key
  refine key.mono ?_
  rintro e w' ⟨rfl, hb⟩
  refine ⟨.tuple #[.int .i32 (deR l), .int .i64 (deN l)], locs, rfl, H.below hb, #[.int .i32 (deR l), .int .i64 (deN l)], rfl, rfl, fun i b' cs hi => ?_⟩
  match i with
  | 0 =>
   cases hi
   refine ⟨.int .i32 (deR l), rfl, [.int .i32 (deR l)], rfl, rfl, fun _ => rfl, fun j x hj => ?_⟩
   cases j with
   | zero => cases hj; exact ⟨_, rfl, .int _ _⟩
   | succ j => simp at hj
  | 1 =>
   cases hi
   refine ⟨.int .i64 (deN l), rfl, [.int .i64 (deN l)], rfl, rfl, fun _ => rfl, fun j x hj => ?_⟩
   cases j with
   | zero => cases hj; exact ⟨_, rfl, .int _ _⟩
   | succ j => simp at hj
  | i + 2 => simp at hi
def chs : Nat → List Int → Nat → List Int → List Int × Int
 | 0, _, _, _ => ([], -1)
 | f + 1, l, at_, acc => if l.length ≤ at_ then (acc, -1) else if (ch1 (l.drop at_)).2 = 0 then ([], at_) else chs f l (at_ + (ch1 (l.drop at_)).2.toNat) (acc ++ [(ch1 (l.drop at_)).1])
def chars (l : List Int) : List Int × Int := chs (l.length + 1) l 0 []
theorem drop_bytes {l : List Int} (h : Bytes l) (n : Nat) : Bytes (l.drop n) := fun x hx => h x (List.mem_of_mem_drop hx)
theorem decode_loop (l : List Int) (h : Bytes l) (hlen : l.length ≤ 65536) (R : TV → List Ob → Prop)
  (hok : (chars l).2 = -1 → R (.tup [(false, [.fz (.sl 1 (ints .i64 (chars l).1))]), (false, [.fz (.int .i64 0)]), (false, [.fz (.int .i64 0)])]) [])
  (hbad : (chars l).2 ≠ -1 → R (.tup [(false, [.fz (.sl 1 ([] : List (List FV)))]), (false, [.fz (.int .i64 (chars l).2)]), (false, [.fz (.int .i64 4)])]) []) :
  ∀ (f at_ : Nat) (acc : List Int), at_ ≤ l.length → l.length - at_ < f → acc.length ≤ at_ → chs f l at_ acc = chars l → utf_Decode_L0 R (ints .u8 l) at_ (ints .i64 acc)
 | 0, at_, acc, h1, h2, h3, h4 => by omega
 | f + 1, at_, acc, h1, h2, h3, h4 => by
  refine utf_Decode_l0 ?_
  unfold utf_Decode_R0
  unfold chs at h4
  simp only [ints_len, ints_app, ints_snoc, ints_take, ints_drop, ints_set, ints_rep, ints_one, ex_rd, dec_t, dec_f, beq_t, beq_f, bne_t, bne_f, not_t, not_f, List.length_set, List.length_append, List.length_cons, List.length_nil, List.length_take, List.length_drop, List.length_replicate, Int.toNat_natCast, List.nil_append, Bool.not_true, Bool.not_false, Wk_nil, Wk_cons, wk1_same, wk1_f, and_true, true_and, Bool.false_eq_true, Bool.true_eq_false, false_implies, forall_const]
  by_cases hat : l.length ≤ at_
  ·rw [if_pos hat] at h4
   refine ⟨fun h => by omega, fun _ => ?_⟩
   rw [← h4] at hok
   exact hok rfl
  ·rw [if_neg hat] at h4
   have hne : l.drop at_ ≠ [] := fun e => by have := congrArg List.length e; simp at this; omega
   have hb := drop_bytes h at_
   have hd := DecodeRune_fn hb hne
   have hc := de_ch1 hb hne
   have hbd := ch1_bounds hb hne
   rw [List.length_drop] at hbd
   refine ⟨fun _ => ⟨by omega, _, _, hd, ?_⟩, fun h => by omega⟩
   rcases hc with ⟨c1, c2, c3⟩ | ⟨c1, c2⟩
   ·rw [c1, if_pos rfl] at h4
    rw [← h4] at hbad
    refine ⟨fun _ => ⟨fun _ => hbad (by simp only; omega), fun h => by omega⟩, fun h => absurd c2 h⟩
   ·have g1 : (ch1 (l.drop at_)).1 = deR (l.drop at_) := by rw [c1]
    have g2 : (ch1 (l.drop at_)).2 = deN (l.drop at_) := by rw [c1]
    have hn0 : (ch1 (l.drop at_)).2 ≠ 0 := by
     intro h0
     rw [g1, g2] at *
     have hd0 : deN (l.drop at_) = 0 := h0
     have hg : 1 ≤ deN (l.drop at_) := by
      have := hbd
      unfold deN
      unfold deN at hd0
      have hs : (bytesOf (l.drop at_)).size = (l.drop at_).length := size_of _
      have hl : (l.drop at_).length ≠ 0 := fun h => hne (List.length_eq_zero_iff.1 h)
      unfold Lib.decodeGo at hd0 ⊢
      rw [if_neg (by omega), Lib.decode_at] at hd0 ⊢
      revert hd0
      unfold Lib.decodeN
      repeat' split
      all_goals (simp)
     omega
    rw [if_neg hn0, g1, g2] at h4
    rw [g1, g2] at hbd
    have ih := decode_loop l h hlen R hok hbad f (at_ + (deN (l.drop at_)).toNat) (acc ++ [deR (l.drop at_)]) (by omega) (by omega) (by rw [List.length_append, List.length_singleton]; omega) h4
    have e1 : IntKind.wrap .i64 (deR (l.drop at_)) = deR (l.drop at_) := w64 (by omega) (by omega)
    have e2 : IntKind.wrap .i64 ((at_ : Int) + deN (l.drop at_)) = ((at_ + (deN (l.drop at_)).toNat : Nat) : Int) := by rw [w64 (by omega) (by omega)]; omega
    rw [e1, e2]
    refine ⟨fun h65 => ⟨fun h => by omega, fun _ => ⟨by omega, ih⟩⟩, fun _ => ⟨by omega, ih⟩⟩
def decL (l : List Int) : List Int := if 65536 < l.length then [] else if (chars l).2 = -1 then (chars l).1 else []
def decA (l : List Int) : Int := if 65536 < l.length then 0 else if (chars l).2 = -1 then 0 else (chars l).2
def decE (l : List Int) : Int := if 65536 < l.length then 6 else if (chars l).2 = -1 then 0 else 4
theorem utfDecode_ok (l : List Int) (h : Bytes l) : Fn Tryz.prog 135 [fzS .u8 l] [] (.tup [(false, [.fz (.sl 1 (ints .i64 (decL l)))]), (false, [.fz (.int .i64 (decA l))]), (false, [.fz (.int .i64 (decE l))])]) [] := by
 refine utf_Decode_fn _ ?_
 unfold utf_Decode_H decL decA decE
 rw [ints_len, dec_t, dec_f]
 refine ⟨fun h1 => ?_, fun h1 => ?_⟩
 ·have hl : 65536 < l.length := by omega
  simp [if_pos hl, ints]
 ·have hl : ¬ 65536 < l.length := by omega
  simp only [if_neg hl]
  refine decode_loop l h (by omega) _ (fun h2 => ?_) (fun h2 => ?_) (l.length + 1) 0 [] (by omega) (by omega) (by simp) rfl
  ·simp [if_pos h2]
  ·simp [if_neg h2, ints]
end
section
def scalB (c : Int) : Bool := decide (0 ≤ c) && decide (c ≤ 1114111) && !(decide (55296 ≤ c) && decide (c ≤ 57343))
theorem rScalar_ok (c : Int) : Fn Tryz.prog 132 [fzI .i64 c] [] (fzB (scalB c)) [] := by
 refine ref02_Scalar_fn _ ?_
 unfold ref02_Scalar_H scalB
 rw [dec_t, dec_f, dec_t, dec_f, dec_t, dec_f]
 refine ⟨fun h => ⟨fun h2 => ⟨fun h3 => ?_, fun h3 => ?_⟩, fun h2 => ?_⟩, fun h => ?_⟩
 ·rw [decide_eq_true h, decide_eq_true h2, decide_eq_true h3]; exact ⟨rfl, rfl⟩
 ·rw [decide_eq_true h, decide_eq_true h2, decide_eq_false h3]; exact ⟨rfl, rfl⟩
 ·rw [decide_eq_false h2, Bool.and_false]; exact ⟨rfl, rfl⟩
 ·rw [decide_eq_false h]; exact ⟨rfl, rfl⟩
def utfB (c : Int) : List Int :=
 if c < 128 then [c] else if c < 2048 then [192 + c / 64, 128 + c % 64]
 else if c < 65536 then [224 + c / 4096, 128 + c / 64 % 64, 128 + c % 64]
 else [240 + c / 262144, 128 + c / 4096 % 64, 128 + c / 64 % 64, 128 + c % 64]
theorem rBytes_ok (c : Int) (h : scalB c = true) : Fn Tryz.prog 133 [fzI .i64 c] [] (fzS .u8 (utfB c)) [] := by
 unfold scalB at h
 simp only [Bool.and_eq_true, decide_eq_true_eq] at h
 obtain ⟨⟨h0, h1⟩, _⟩ := h
 refine ref02_Bytes_fn _ ?_
 unfold ref02_Bytes_H utfB
 rw [dec_t, dec_f, dec_t, dec_f, dec_t, dec_f]
 have t1 : Int.tdiv c 64 = c / 64 := Int.tdiv_eq_ediv_of_nonneg h0
 have t2 : Int.tdiv c 4096 = c / 4096 := Int.tdiv_eq_ediv_of_nonneg h0
 have t3 : Int.tdiv c 262144 = c / 262144 := Int.tdiv_eq_ediv_of_nonneg h0
 have m1 : Int.tmod c 64 = c % 64 := Int.tmod_eq_emod_of_nonneg h0
 have w1 : IntKind.wrap .i64 (c / 64) = c / 64 := w64 (by omega) (by omega)
 have w2 : IntKind.wrap .i64 (c / 4096) = c / 4096 := w64 (by omega) (by omega)
 have w3 : IntKind.wrap .i64 (c / 262144) = c / 262144 := w64 (by omega) (by omega)
 have m2 : Int.tmod (c / 64) 64 = c / 64 % 64 := Int.tmod_eq_emod_of_nonneg (by omega)
 have m3 : Int.tmod (c / 4096) 64 = c / 4096 % 64 := Int.tmod_eq_emod_of_nonneg (by omega)
 have v1 : IntKind.wrap .i64 (128 + c % 64) = 128 + c % 64 := w64 (by omega) (by omega)
 have v2 : IntKind.wrap .i64 (128 + c / 64 % 64) = 128 + c / 64 % 64 := w64 (by omega) (by omega)
 have v3 : IntKind.wrap .i64 (128 + c / 4096 % 64) = 128 + c / 4096 % 64 := w64 (by omega) (by omega)
 have u1 : IntKind.wrap .u8 (128 + c % 64) = 128 + c % 64 := wu8 (by omega) (by omega)
 have u2 : IntKind.wrap .u8 (128 + c / 64 % 64) = 128 + c / 64 % 64 := wu8 (by omega) (by omega)
 have u3 : IntKind.wrap .u8 (128 + c / 4096 % 64) = 128 + c / 4096 % 64 := wu8 (by omega) (by omega)
 refine ⟨fun h => ?_, fun h => ⟨fun h2 => ⟨by omega, by omega, ?_⟩, fun h2 => ⟨fun h3 => ⟨by omega, by omega, by omega, by omega, ?_⟩, fun h3 => ⟨by omega, by omega, by omega, by omega, by omega, by omega, ?_⟩⟩⟩⟩
 ·rw [if_pos h, wu8 (by omega) (by omega)]; exact ⟨rfl, rfl⟩
 ·have x1 : IntKind.wrap .i64 (192 + c / 64) = 192 + c / 64 := w64 (by omega) (by omega)
  have x2 : IntKind.wrap .u8 (192 + c / 64) = 192 + c / 64 := wu8 (by omega) (by omega)
  rw [if_neg h, if_pos h2, t1, w1, x1, x2, m1, v1, u1]; exact ⟨rfl, rfl⟩
 ·have x1 : IntKind.wrap .i64 (224 + c / 4096) = 224 + c / 4096 := w64 (by omega) (by omega)
  have x2 : IntKind.wrap .u8 (224 + c / 4096) = 224 + c / 4096 := wu8 (by omega) (by omega)
  rw [if_neg h, if_neg h2, if_pos h3, t2, w2, x1, x2, t1, w1, m2, v2, u2, m1, v1, u1]; exact ⟨rfl, rfl⟩
 ·have x1 : IntKind.wrap .i64 (240 + c / 262144) = 240 + c / 262144 := w64 (by omega) (by omega)
  have x2 : IntKind.wrap .u8 (240 + c / 262144) = 240 + c / 262144 := wu8 (by omega) (by omega)
  rw [if_neg h, if_neg h2, if_neg h3, t3, w3, x1, x2, t2, w2, m3, v3, u3, t1, w1, m2, v2, u2, m1, v1, u1]; exact ⟨rfl, rfl⟩
theorem utfB_len (c : Int) : ((utfB c).length : Int) = if c < 128 then 1 else if c < 2048 then 2 else if c < 65536 then 3 else 4 := by
 unfold utfB
 repeat' split
 all_goals rfl
abbrev oneT (p : Int × Int) : TV := .tup [(false, [.fz (.int .i64 p.1)]), (false, [.fz (.int .i64 p.2)])]
def oneZ (c n : Int) : Int × Int := if scalB c = true ∧ ((utfB c).length : Int) = n then (c, n) else (0, 0)
theorem one_end (b : LL) (at_ c n i : Int) (hi : ¬ i < n) (R : TV → List Ob → Prop) (hR : R (oneT (oneZ c n)) []) : ref02_one_L0 R b at_ c n i := by
 refine ref02_one_l0 ?_
 unfold ref02_one_R0
 rw [dec_t, dec_f]
 refine ⟨fun h => absurd h hi, fun _ => ⟨_, rScalar_ok c, ?_⟩⟩
 unfold oneZ at hR
 rw [not_t, not_f]
 refine ⟨fun h => ?_, fun h => ⟨_, rBytes_ok c h, ?_⟩⟩
 ·rw [if_neg (by rw [h]; simp)] at hR; exact hR
 ·rw [ints_len, bne_t, bne_f]
  refine ⟨fun h2 => ?_, fun h2 => ?_⟩
  ·rw [if_neg (fun h3 => h2 h3.2)] at hR; exact hR
  ·rw [if_pos ⟨h, h2⟩] at hR; exact hR
def oneS (x : Int) (p : Int × Int) : Int × Int := if x < 128 ∨ 192 ≤ x then (0, 0) else p
theorem one_step (l : List Int) (hl : Bytes l) (hlen : l.length ≤ 140737488355328) (at_ i : Nat) (c n : Int) (hi : (i : Int) < n) (hn : at_ + i < l.length) (hc0 : 0 ≤ c) (hc1 : c ≤ 1114111) (p : Int × Int) (R : TV → List Ob → Prop) (hR : R (oneT (oneS (rd l (at_ + i)) p)) [])
  (hk : 128 ≤ rd l (at_ + i) → rd l (at_ + i) < 192 → R (oneT p) [] → ref02_one_L0 R (ints .u8 l) at_ (c * 64 + rd l (at_ + i) - 128) n ((i + 1 : Nat) : Int)) : ref02_one_L0 R (ints .u8 l) at_ c n i := by
 refine ref02_one_l0 ?_
 unfold ref02_one_R0
 have e1 : IntKind.wrap .i64 ((at_ : Int) + (i : Int)) = ((at_ + i : Nat) : Int) := w64 (by omega) (by omega)
 have hb := rd_byte hl (at_ + i)
 have e2 : IntKind.wrap .i64 (rd l (at_ + i)) = rd l (at_ + i) := w64 (by omega) (by omega)
 have e3 : IntKind.wrap .i64 ((i : Int) + 1) = ((i + 1 : Nat) : Int) := w64 (by omega) (by omega)
 have e4 : IntKind.wrap .i64 (c * 64) = c * 64 := w64 (by omega) (by omega)
 have e5 : IntKind.wrap .i64 (c * 64 + rd l (at_ + i)) = c * 64 + rd l (at_ + i) := w64 (by omega) (by omega)
 have e6 : IntKind.wrap .i64 (c * 64 + rd l (at_ + i) - 128) = c * 64 + rd l (at_ + i) - 128 := w64 (by omega) (by omega)
 have hg : (ints .u8 l)[at_ + i]? = some [.int .u8 (rd l (at_ + i))] := by simp [ints, rd_at l _ hn, hn]
 rw [e1, Int.toNat_natCast, e3, dec_t, dec_f]
 unfold oneS at hR
 refine ⟨fun _ => ⟨by omega, _, hg, ?_⟩, fun h => absurd hi h⟩
 rw [e2, dec_t, dec_f, dec_t, dec_f, e4, e5, e6]
 refine ⟨fun h => ?_, fun h => ⟨fun h2 => ?_, fun h2 => ?_⟩⟩
 ·rw [if_pos (.inl h)] at hR; exact hR
 ·rw [if_pos (.inr h2)] at hR; exact hR
 ·rw [if_neg (by omega)] at hR
  exact hk (by omega) (by omega) hR
theorem oneZ_eq (c n : Int) : oneZ c n = if (0 ≤ c ∧ c ≤ 1114111 ∧ ¬ (55296 ≤ c ∧ c ≤ 57343)) ∧ (if c < 128 then 1 else if c < 2048 then 2 else if c < 65536 then 3 else 4) = n then (c, n) else (0, 0) := by
 unfold oneZ
 have e : (scalB c = true) ↔ (0 ≤ c ∧ c ≤ 1114111 ∧ ¬ (55296 ≤ c ∧ c ≤ 57343)) := by
  unfold scalB
  simp only [Bool.and_eq_true, Bool.not_eq_true', Bool.and_eq_false_iff, decide_eq_true_eq, decide_eq_false_iff_not]
  omega
 simp only [e, utfB_len]
theorem one_two (l : List Int) (hl : Bytes l) (hlen : l.length ≤ 140737488355328) (at_ : Nat) (c : Int) (hn : at_ + 1 < l.length) (hc0 : 0 ≤ c) (hc1 : c < 32) (R : TV → List Ob → Prop) (hR : R (oneT (oneS (rd l (at_ + 1)) (oneZ (c * 64 + rd l (at_ + 1) - 128) 2))) []) : ref02_one_L0 R (ints .u8 l) at_ c 2 1 := by
 have hb := rd_byte hl (at_ + 1)
 exact one_step l hl hlen at_ 1 c 2 (by omega) hn hc0 (by omega) _ R hR fun _ _ hR => one_end _ _ _ _ _ (by omega) R hR
theorem one_three (l : List Int) (hl : Bytes l) (hlen : l.length ≤ 140737488355328) (at_ : Nat) (c : Int) (hn : at_ + 2 < l.length) (hc0 : 0 ≤ c) (hc1 : c < 16) (R : TV → List Ob → Prop)
  (hR : R (oneT (oneS (rd l (at_ + 1)) (oneS (rd l (at_ + 2)) (oneZ ((c * 64 + rd l (at_ + 1) - 128) * 64 + rd l (at_ + 2) - 128) 3)))) []) : ref02_one_L0 R (ints .u8 l) at_ c 3 1 := by
 have hb := rd_byte hl (at_ + 1)
 have hb2 := rd_byte hl (at_ + 2)
 refine one_step l hl hlen at_ 1 c 3 (by omega) (by omega) hc0 (by omega) _ R hR fun h1 h2 hR => ?_
 exact one_step l hl hlen at_ 2 _ 3 (by omega) hn (by omega) (by omega) _ R hR fun _ _ hR => one_end _ _ _ _ _ (by omega) R hR
theorem one_four (l : List Int) (hl : Bytes l) (hlen : l.length ≤ 140737488355328) (at_ : Nat) (c : Int) (hn : at_ + 3 < l.length) (hc0 : 0 ≤ c) (hc1 : c < 8) (R : TV → List Ob → Prop)
  (hR : R (oneT (oneS (rd l (at_ + 1)) (oneS (rd l (at_ + 2)) (oneS (rd l (at_ + 3)) (oneZ (((c * 64 + rd l (at_ + 1) - 128) * 64 + rd l (at_ + 2) - 128) * 64 + rd l (at_ + 3) - 128) 4))))) []) : ref02_one_L0 R (ints .u8 l) at_ c 4 1 := by
 have hb := rd_byte hl (at_ + 1)
 have hb2 := rd_byte hl (at_ + 2)
 have hb3 := rd_byte hl (at_ + 3)
 refine one_step l hl hlen at_ 1 c 4 (by omega) (by omega) hc0 (by omega) _ R hR fun h1 h2 hR => ?_
 refine one_step l hl hlen at_ 2 _ 4 (by omega) (by omega) (by omega) (by omega) _ R hR fun _ _ hR => ?_
 exact one_step l hl hlen at_ 3 _ 4 (by omega) hn (by omega) (by omega) _ R hR fun _ _ hR => one_end _ _ _ _ _ (by omega) R hR
theorem rd_dropN (l : List Int) (n i : Nat) : rd (l.drop n) i = rd l (n + i) := by
 unfold rd
 rw [List.getD_eq_getElem?_getD, List.getD_eq_getElem?_getD, List.getElem?_drop]
set_option maxHeartbeats 1000000 in
theorem one_head (l : List Int) (hl : Bytes l) (hlen : l.length ≤ 140737488355328) (at_ : Nat) (hat : at_ < l.length) (R : TV → List Ob → Prop) (hR : R (oneT (chN ((l.length : Int) - at_) (rd l at_) (rd l (at_ + 1)) (rd l (at_ + 2)) (rd l (at_ + 3)))) []) : ref02_one_H R (ints .u8 l) at_ := by
 unfold ref02_one_H
 have hb := rd_byte hl at_
 have hb1 := rd_byte hl (at_ + 1)
 have hb2 := rd_byte hl (at_ + 2)
 have hb3 := rd_byte hl (at_ + 3)
 have e2 : IntKind.wrap .i64 (rd l at_) = rd l at_ := w64 (by omega) (by omega)
 have f1 : IntKind.wrap .i64 (rd l at_ - 240) = rd l at_ - 240 := w64 (by omega) (by omega)
 have f2 : IntKind.wrap .i64 (rd l at_ - 224) = rd l at_ - 224 := w64 (by omega) (by omega)
 have f3 : IntKind.wrap .i64 (rd l at_ - 192) = rd l at_ - 192 := w64 (by omega) (by omega)
 have g1 : IntKind.wrap .i64 ((at_ : Int) + 1) = (at_ : Int) + 1 := w64 (by omega) (by omega)
 have g2 : IntKind.wrap .i64 ((at_ : Int) + 2) = (at_ : Int) + 2 := w64 (by omega) (by omega)
 have g3 : IntKind.wrap .i64 ((at_ : Int) + 3) = (at_ : Int) + 3 := w64 (by omega) (by omega)
 have g4 : IntKind.wrap .i64 ((at_ : Int) + 4) = (at_ : Int) + 4 := w64 (by omega) (by omega)
 have hg : (ints .u8 l)[at_]? = some [.int .u8 (rd l at_)] := by simp [ints, rd_at l _ hat, hat]
 rw [Int.toNat_natCast, ints_len]
 refine ⟨by omega, _, hg, ?_⟩
 rw [e2, f1, f2, f3, g1, g2, g3, g4]
 clear e2 f1 f2 f3 g1 g2 g3 g4 hg
 have k4 : 240 ≤ rd l at_ → rd l at_ < 248 → ((l.length : Int) < (at_ : Int) + 4 → R (oneT (0, 0)) []) ∧ (¬ (l.length : Int) < (at_ : Int) + 4 → ref02_one_L0 R (ints .u8 l) at_ (rd l at_ - 240) 4 1) := by
  intro c1 c2
  refine ⟨fun h => ?_, fun h => one_four l hl hlen at_ _ (by omega) (by omega) (by omega) _ ?_⟩
  ·refine cast (congrArg (fun p => R (oneT p) []) ?_) hR
   unfold chN
   repeat' split
   all_goals first | rfl | (exfalso; omega)
  ·refine cast (congrArg (fun p => R (oneT p) []) ?_) hR
   unfold oneS chN
   rw [oneZ_eq]
   repeat' split
   all_goals first | rfl | (exfalso; omega)
 have k3 : 224 ≤ rd l at_ → rd l at_ < 240 → ((l.length : Int) < (at_ : Int) + 3 → R (oneT (0, 0)) []) ∧ (¬ (l.length : Int) < (at_ : Int) + 3 → ref02_one_L0 R (ints .u8 l) at_ (rd l at_ - 224) 3 1) := by
  intro c1 c2
  refine ⟨fun h => ?_, fun h => one_three l hl hlen at_ _ (by omega) (by omega) (by omega) _ ?_⟩
  ·refine cast (congrArg (fun p => R (oneT p) []) ?_) hR
   unfold chN
   repeat' split
   all_goals first | rfl | (exfalso; omega)
  ·refine cast (congrArg (fun p => R (oneT p) []) ?_) hR
   unfold oneS chN
   rw [oneZ_eq]
   repeat' split
   all_goals first | rfl | (exfalso; omega)
 have k2 : 192 ≤ rd l at_ → rd l at_ < 224 → ((l.length : Int) < (at_ : Int) + 2 → R (oneT (0, 0)) []) ∧ (¬ (l.length : Int) < (at_ : Int) + 2 → ref02_one_L0 R (ints .u8 l) at_ (rd l at_ - 192) 2 1) := by
  intro c1 c2
  refine ⟨fun h => ?_, fun h => one_two l hl hlen at_ _ (by omega) (by omega) (by omega) _ ?_⟩
  ·refine cast (congrArg (fun p => R (oneT p) []) ?_) hR
   unfold chN
   repeat' split
   all_goals first | rfl | (exfalso; omega)
  ·refine cast (congrArg (fun p => R (oneT p) []) ?_) hR
   unfold oneS chN
   rw [oneZ_eq]
   repeat' split
   all_goals first | rfl | (exfalso; omega)
 have k1 : rd l at_ < 128 → ref02_one_L0 R (ints .u8 l) at_ (rd l at_) 1 1 := by
  intro c1
  refine one_end _ _ _ _ _ (by omega) _ (cast (congrArg (fun p => R (oneT p) []) ?_) hR)
  unfold chN
  rw [oneZ_eq]
  repeat' split
  all_goals first | rfl | (exfalso; omega)
 have k0 : ¬ rd l at_ < 128 → ¬ (192 ≤ rd l at_ ∧ rd l at_ < 248) → R (oneT (0, 0)) [] := by
  intro c1 c2
  refine cast (congrArg (fun p => R (oneT p) []) ?_) hR
  unfold chN
  repeat' split
  all_goals first | rfl | (exfalso; omega)
 repeat' first | (refine And.intro ?_ ?_) | (intro h; first | (have := of_decide_eq_true h; clear h; try (exfalso; omega)) | (have := of_decide_eq_false h; clear h; try (exfalso; omega)))
 all_goals first | exact (k4 (by omega) (by omega)).2 (by omega) | exact (k3 (by omega) (by omega)).2 (by omega) | exact (k2 (by omega) (by omega)).2 (by omega) | exact k1 (by omega) | exact k0 (by omega) (by omega) | exact (k4 (by omega) (by omega)).1 (by omega) | exact (k3 (by omega) (by omega)).1 (by omega) | exact (k2 (by omega) (by omega)).1 (by omega)
theorem one_ok (l : List Int) (hl : Bytes l) (hlen : l.length ≤ 140737488355328) (at_ : Nat) (hat : at_ < l.length) : Fn Tryz.prog 126 [fzS .u8 l, fzI .i64 at_] [] (oneT (ch1 (l.drop at_))) [] := by
 refine ref02_one_fn _ _ (one_head l hl hlen at_ hat _ ⟨?_, rfl⟩)
 unfold ch1
 rw [rd_dropN, rd_dropN, rd_dropN, rd_dropN, List.length_drop, show ((l.length - at_ : Nat) : Int) = (l.length : Int) - at_ by omega]; rfl
theorem chars_loop (l : List Int) (hl : Bytes l) (hlen : l.length ≤ 20000000000000) (R : TV → List Ob → Prop)
  (hok : (chars l).2 = -1 → R (.tup [(false, [.fz (.sl 1 (ints .i64 (chars l).1))]), (false, [.fz (.int .i64 (-1))])]) [])
  (hbad : (chars l).2 ≠ -1 → R (.tup [(false, [.fz (.sl 1 ([] : List (List FV)))]), (false, [.fz (.int .i64 (chars l).2)])]) []) :
  ∀ (f at_ : Nat) (acc : List Int), at_ ≤ l.length → l.length - at_ < f → acc.length ≤ at_ → chs f l at_ acc = chars l → ref02_Chars_L0 R (ints .u8 l) at_ (ints .i64 acc)
 | 0, at_, acc, h1, h2, h3, h4 => by omega
 | f + 1, at_, acc, h1, h2, h3, h4 => by
  refine ref02_Chars_l0 ?_
  unfold ref02_Chars_R0
  unfold chs at h4
  simp only [ints_len, ints_app, ints_snoc, ints_take, ints_drop, ints_set, ints_rep, ints_one, ex_rd, dec_t, dec_f, beq_t, beq_f, bne_t, bne_f, not_t, not_f, List.length_set, List.length_append, List.length_cons, List.length_nil, List.length_take, List.length_drop, List.length_replicate, Int.toNat_natCast, List.nil_append, Bool.not_true, Bool.not_false, Wk_nil, Wk_cons, wk1_same, wk1_f, and_true, true_and, Bool.false_eq_true, Bool.true_eq_false, false_implies, forall_const]
  by_cases hat : l.length ≤ at_
  ·rw [if_pos hat] at h4
   refine ⟨fun h => by omega, fun _ => ?_⟩
   rw [← h4] at hok
   exact hok rfl
  ·rw [if_neg hat] at h4
   have hne : l.drop at_ ≠ [] := fun e => by have := congrArg List.length e; simp at this; omega
   have hb := drop_bytes hl at_
   have hd := one_ok l hl (by omega) at_ (by omega)
   have hbd := ch1_bounds hb hne
   rw [List.length_drop] at hbd
   refine ⟨fun _ => ⟨_, _, hd, fun h0 => ?_, fun h0 => ?_⟩, fun h => by omega⟩
   ·rw [if_pos h0] at h4
    rw [← h4] at hbad
    exact hbad (by simp only; omega)
   ·rw [if_neg h0] at h4
    have ih := chars_loop l hl hlen R hok hbad f (at_ + (ch1 (l.drop at_)).2.toNat) (acc ++ [(ch1 (l.drop at_)).1]) (by omega) (by omega) (by rw [List.length_append, List.length_singleton]; omega) h4
    have e2 : IntKind.wrap .i64 ((at_ : Int) + (ch1 (l.drop at_)).2) = ((at_ + (ch1 (l.drop at_)).2.toNat : Nat) : Int) := by rw [w64 (by omega) (by omega)]; omega
    rw [e2]
    exact ⟨by omega, ih⟩
def chL (l : List Int) : List Int := if (chars l).2 = -1 then (chars l).1 else []
theorem rChars_ok (l : List Int) (h : Bytes l) (hlen : l.length ≤ 20000000000000) : Fn Tryz.prog 117 [fzS .u8 l] [] (.tup [(false, [.fz (.sl 1 (ints .i64 (chL l)))]), (false, [.fz (.int .i64 (chars l).2)])]) [] := by
 refine ref02_Chars_fn _ ?_
 unfold ref02_Chars_H chL
 refine chars_loop l h hlen _ (fun h2 => ?_) (fun h2 => ?_) (l.length + 1) 0 [] (by omega) (by omega) (by simp) rfl
 ·rw [if_pos h2, h2]; exact ⟨rfl, rfl⟩
 ·rw [if_neg h2]; exact ⟨rfl, rfl⟩
end
section
open Go Go.RowKit
def blankB (c : Int) : Bool := decide (c = 9 ∨ c = 10 ∨ c = 13 ∨ c = 32)
def endsB (c : Int) : Bool := decide ((c = 9 ∨ c = 10 ∨ c = 13 ∨ c = 32) ∨ c = 40 ∨ c = 41 ∨ c = 59 ∨ c = 34 ∨ c = 39 ∨ c = 96 ∨ c = 44)
theorem uBlank_ok (c : Int) : Fn Tryz.prog 151 [fzI .i64 c] [] (fzB (blankB c)) [] := by
 refine utf_Blank_fn _ ?_
 unfold utf_Blank_H blankB
 simp only [beq_t, beq_f]
 refine ⟨fun h => ?_, fun h => ⟨fun h2 => ?_, fun h2 => ⟨fun h3 => ?_, fun h3 => ?_⟩⟩⟩
 ·simp [h]
 ·simp [h2]
 ·simp [h3]
 ·simp [h, h2, h3]
  rw [Bool.eq_iff_iff]; simp
theorem rBlank_ok (c : Int) : Fn Tryz.prog 131 [fzI .i64 c] [] (fzB (blankB c)) [] := by
 refine ref02_Blank_fn _ ?_
 unfold ref02_Blank_H blankB
 simp only [beq_t, beq_f]
 refine ⟨fun h => ?_, fun h => ⟨fun h2 => ?_, fun h2 => ⟨fun h3 => ?_, fun h3 => ?_⟩⟩⟩
 ·simp [h]
 ·simp [h2]
 ·simp [h3]
 ·simp [h, h2, h3]
  rw [Bool.eq_iff_iff]; simp
theorem IndexByte_fn (s : ByteArray) (c : Int) : Fn Tryz.prog 152 [.one (.fz (.str s)), fzI .u8 c] [] (fzI .i64 (Lib.indexByte s.data.toList c.toNat.toUInt8)) [] :=
 Fn.of_below [.str s, .int .u8 c] rfl rfl fun w hg => (Tryz.strings_IndexByte s c w).mono fun e w' ⟨h1, h2⟩ => ⟨h1, h2 ▸ Below.refl _ _⟩
set_option maxRecDepth 100000 in
theorem ends_tab : ∀ c : Fin 128, (decide (0 ≤ Lib.indexByte (ByteArray.mk #[40, 41, 59, 34, 39, 96, 44]).data.toList (c.val : Nat).toUInt8)) = decide ((c.val : Int) = 40 ∨ (c.val : Int) = 41 ∨ (c.val : Int) = 59 ∨ (c.val : Int) = 34 ∨ (c.val : Int) = 39 ∨ (c.val : Int) = 96 ∨ (c.val : Int) = 44) := by decide
theorem uEnds_ok (c : Int) : Fn Tryz.prog 138 [fzI .i64 c] [] (fzB (endsB c)) [] := by
 refine utf_Ends_fn _ ?_
 unfold utf_Ends_H endsB
 refine ⟨_, uBlank_ok c, ?_⟩
 unfold blankB
 simp only [dec_t, dec_f]
 refine ⟨fun h => ?_, fun h => ⟨fun h2 => ⟨fun h3 => ?_, fun h3 => ?_⟩, fun h2 => ?_⟩⟩
 ·simp [h]
 ·rw [wu8 (by omega) (by omega)]
  refine ⟨_, IndexByte_fn _ c, ?_⟩
  have := ends_tab ⟨c.toNat, by omega⟩
  simp only at this
  rw [this, show ((c.toNat : Nat) : Int) = c by omega]
  simp [h]
 ·have : ¬ (c = 40 ∨ c = 41 ∨ c = 59 ∨ c = 34 ∨ c = 39 ∨ c = 96 ∨ c = 44) := by omega
  simp [h, this]
 ·have : ¬ (c = 40 ∨ c = 41 ∨ c = 59 ∨ c = 34 ∨ c = 39 ∨ c = 96 ∨ c = 44) := by omega
  simp [h, this]
theorem rEnds_ok (c : Int) : Fn Tryz.prog 125 [fzI .i64 c] [] (fzB (endsB c)) [] := by
 refine ref02_Ends_fn _ ?_
 unfold ref02_Ends_H endsB
 refine ⟨_, rBlank_ok c, ?_⟩
 unfold blankB
 simp only [dec_t, dec_f, beq_t, beq_f]
 refine ⟨fun h => ?_, fun h => ⟨fun h2 => ?_, fun h2 => ⟨fun h3 => ?_, fun h3 => ⟨fun h4 => ?_, fun h4 => ⟨fun h5 => ?_, fun h5 => ⟨fun h6 => ?_, fun h6 => ⟨fun h7 => ?_, fun h7 => ?_⟩⟩⟩⟩⟩⟩⟩
 ·simp [h]
 ·simp [h2]
 ·simp [h3]
 ·simp [h4]
 ·simp [h5]
 ·simp [h6]
 ·simp [h7]
 ·simp [h, h2, h3, h4, h5, h6, h7]
  rw [Bool.eq_iff_iff]; simp
theorem ixEnds_loop (xs : List Int) (hl : xs.length ≤ 1000000000) :
  ∀ (d j : Nat), j + d = xs.length → (xs.take j).any endsB = false → ∃ n : Int, (decide (0 ≤ n) = xs.any endsB) ∧ ∀ R : TV → List Ob → Prop, R (fzI .i64 n) [] → ixEnds_L0 R (ints .i64 xs) j
 | 0, j, hj, h => by
  refine ⟨-1, ?_, fun R hR => ixEnds_l0 ?_⟩
  ·rw [List.take_of_length_le (by omega)] at h
   rw [h]; simp
  ·unfold ixEnds_R0
   rw [ints_len, dec_t, dec_f]
   exact ⟨fun h => by omega, fun _ => hR⟩
 | d + 1, j, hj, h => by
  have hF := uEnds_ok (rd xs j)
  have hg : (ints .i64 xs)[j]? = some [.int .i64 (rd xs j)] := by simp [ints, rd_at xs j (by omega), show j < xs.length by omega]
  by_cases hpx : endsB (rd xs j) = true
  ·refine ⟨j, ?_, fun R hR => ixEnds_l0 ?_⟩
   ·have : xs.any endsB = true := List.any_eq_true.2 ⟨_, List.getElem_mem (show j < xs.length by omega), by rw [← rd_at xs j (by omega)]; exact hpx⟩
    rw [this]; simp
   ·unfold ixEnds_R0
    rw [ints_len, dec_t, dec_f]
    refine ⟨fun _ => ⟨by omega, _, hg, _, hF, fun _ => hR, fun h => ?_⟩, fun h => by omega⟩
    rw [hpx] at h; cases h
  ·obtain ⟨q, h1, h2⟩ := ixEnds_loop xs hl d (j + 1) (by omega) (by
    rw [List.take_succ_eq_append_getElem (by omega), List.any_append, h, ← rd_at xs j (by omega)]
    simpa using hpx)
   refine ⟨q, h1, fun R hR => ixEnds_l0 ?_⟩
   unfold ixEnds_R0
   have e : IntKind.wrap .i64 ((j : Int) + 1) = ((j + 1 : Nat) : Int) := w64 (by omega) (by omega)
   rw [ints_len, dec_t, dec_f, e]
   refine ⟨fun _ => ⟨by omega, _, hg, _, hF, fun h => absurd h hpx, fun _ => h2 R hR⟩, fun h => by omega⟩
theorem anyEnds_ok (xs : List Int) (hl : xs.length ≤ 1000000000) :
  Fn Tryz.prog 137 [fzS .i64 xs, .one (.fz (.fn 138 []))] [] (fzB (xs.any endsB)) [] := by
 obtain ⟨n, h1, h2⟩ := ixEnds_loop xs hl xs.length 0 (by omega) (by simp)
 refine slices_ContainsFunc_int_int_fn _ _ ?_
 unfold slices_ContainsFunc_int_int_H
 exact ⟨n, ixEnds_fn _ (h2 _ ⟨rfl, rfl⟩), by rw [h1], rfl⟩
def digB (T : List Int) (i : Nat) : Bool := decide (i < T.length ∧ 48 ≤ rd T i ∧ rd T i ≤ 57)
theorem tdigit_ok (T : List Int) (hT : Bytes T) (i : Nat) : Fn Tryz.prog 139 [.one (.fz (.str (bytesOf T))), fzI .i64 i] [] (fzB (digB T i)) [] := by
 refine token_digit_fn _ _ ?_
 unfold token_digit_H digB
 rw [size_of, dec_t, dec_f, Int.toNat_natCast]
 refine ⟨fun h => ?_, fun h => ?_⟩
 ·have hi : i < T.length := by omega
  obtain ⟨c, hc, hcn⟩ := byte_at hT hi
  refine ⟨by omega, c, hc, ?_⟩
  rw [hcn, dec_t, dec_f]
  refine ⟨fun h2 => ⟨by omega, c, hc, ?_⟩, fun h2 => ?_⟩
  ·rw [hcn]; simp [hi, h2]
  ·have : ¬ (i < T.length ∧ 48 ≤ rd T i ∧ rd T i ≤ 57) := by omega
   simp [this]
 ·have : ¬ (i < T.length ∧ 48 ≤ rd T i ∧ rd T i ≤ 57) := by omega
  simp [this]
theorem rdigit_ok (T : List Int) (hT : Bytes T) (i : Nat) : Fn Tryz.prog 124 [.one (.fz (.str (bytesOf T))), fzI .i64 i] [] (fzB (digB T i)) [] := by
 refine ref02_digit_fn _ _ ?_
 unfold ref02_digit_H digB
 rw [size_of, dec_t, dec_f, Int.toNat_natCast]
 refine ⟨fun h => ?_, fun h => ?_⟩
 ·have hi : i < T.length := by omega
  obtain ⟨c, hc, hcn⟩ := byte_at hT hi
  refine ⟨by omega, c, hc, ?_⟩
  rw [hcn, dec_t, dec_f]
  refine ⟨fun h2 => ⟨by omega, c, hc, ?_⟩, fun h2 => ?_⟩
  ·rw [hcn]; simp [hi, h2]
  ·have : ¬ (i < T.length ∧ 48 ≤ rd T i ∧ rd T i ≤ 57) := by omega
   simp [this]
 ·have : ¬ (i < T.length ∧ 48 ≤ rd T i ∧ rd T i ≤ 57) := by omega
  simp [this]
theorem hasPref (T : List Int) (hT : Bytes T) (c : Nat) (hc : c < 256) : Lib.hasPrefix (bytesOf T).data.toList [UInt8.ofNat c] = decide (T.head? = some (c : Int)) := by
 rw [data_of]
 cases T with
 | nil => simp [Lib.hasPrefix]
 | cons x T =>
  have hx := hT x List.mem_cons_self
  have h3 := u8_back hx.1 hx.2
  have hcc : (UInt8.ofNat c).toNat = c := by rw [UInt8.toNat_ofNat']; omega
  unfold Lib.hasPrefix
  rw [Bool.eq_iff_iff]
  simp [← UInt8.toNat_inj]
  omega
theorem HasPrefix_fn (s p : ByteArray) : Fn Tryz.prog 136 [.one (.fz (.str s)), .one (.fz (.str p))] [] (fzB (Lib.hasPrefix s.data.toList p.data.toList)) [] :=
 Fn.of_below [.str s, .str p] rfl rfl fun w hg => (Tryz.strings_HasPrefix s p w).mono fun e w' ⟨h1, h2⟩ => ⟨h1, h2 ▸ Below.refl _ _⟩
def symP (T : List Int) : Prop := T ≠ [] ∧ T ≠ [46] ∧ T.length ≤ 64 ∧ (chars T).2 = -1 ∧ (chars T).1.any endsB = false ∧ rd T 0 ≠ 35 ∧ digB T 0 = false ∧ ¬ ((rd T 0 = 43 ∨ rd T 0 = 45) ∧ digB T 1 = true)
def trueP (T : List Int) : Prop := T = [35, 116] ∨ T = [35, 116, 114, 117, 101]
def falseP (T : List Int) : Prop := T = [35, 102] ∨ T = [35, 102, 97, 108, 115, 101]
instance (T : List Int) : Decidable (symP T) := by unfold symP; infer_instance
instance (T : List Int) : Decidable (trueP T) := by unfold trueP; infer_instance
instance (T : List Int) : Decidable (falseP T) := by unfold falseP; infer_instance
abbrev atT (k : Int) (t : ByteArray) (n : Bool) (l : List Int) (b : Bool) : TV := .tup [(true, [.fz (.int .i64 k), .fz (.str t), .fz (.bool n), .fz (.sl 1 (ints .u32 l)), .fz (.sl 6 ([] : List (List FV))), .fz (.int .i64 0)]), (false, [.fz (.bool b)])]
def atomK (T : List Int) : Int := if trueP T then 8 else if falseP T then 9 else if ptB (pRest T) = true then 7 else if symP T then 4 else 0
def atomS (T : List Int) : List Int := if atomK T = 4 then T else []
def atomN (T : List Int) : Bool := if atomK T = 7 then ptS (pNeg T) (pRest T) else false
def atomL (T : List Int) : List Int := if atomK T = 7 then ptL (pRest T) else []
abbrev atomT (T : List Int) : TV := atT (atomK T) (bytesOf (atomS T)) (atomN T) (atomL T) (decide (atomK T ≠ 0))
theorem atomT_8 {T : List Int} (h : trueP T) : atomT T = atT 8 (ByteArray.mk #[]) false [] true := by
 have : atomK T = 8 := if_pos h
 unfold atomT atomS atomN atomL; rw [this]; rfl
theorem atomT_9 {T : List Int} (h : falseP T) : atomT T = atT 9 (ByteArray.mk #[]) false [] true := by
 have h1 : ¬ trueP T := by
  unfold trueP falseP at *
  rcases h with rfl | rfl <;> simp
 have : atomK T = 9 := by unfold atomK; rw [if_neg h1, if_pos h]
 unfold atomT atomS atomN atomL; rw [this]; rfl
theorem atomT_7 {T : List Int} (h1 : ¬ trueP T) (h2 : ¬ falseP T) (h3 : ptB (pRest T) = true) : atomT T = atT 7 (ByteArray.mk #[]) (ptS (pNeg T) (pRest T)) (ptL (pRest T)) true := by
 have : atomK T = 7 := by unfold atomK; rw [if_neg h1, if_neg h2, if_pos h3]
 unfold atomT atomS atomN atomL; rw [this]; rfl
theorem atomT_4 {T : List Int} (h1 : ¬ trueP T) (h2 : ¬ falseP T) (h3 : ptB (pRest T) = false) (h4 : symP T) : atomT T = atT 4 (bytesOf T) false [] true := by
 have : atomK T = 4 := by unfold atomK; rw [if_neg h1, if_neg h2, if_neg (by rw [h3]; simp), if_pos h4]
 unfold atomT atomS atomN atomL; rw [this]; rfl
theorem atomT_0 {T : List Int} (h1 : ¬ trueP T) (h2 : ¬ falseP T) (h3 : ptB (pRest T) = false) (h4 : ¬ symP T) : atomT T = atT 0 (ByteArray.mk #[]) false [] false := by
 have : atomK T = 0 := by unfold atomK; rw [if_neg h1, if_neg h2, if_neg (by rw [h3]; simp), if_neg h4]
 unfold atomT atomS atomN atomL; rw [this]; rfl
theorem decE_small {T : List Int} (h : ¬ 64 < T.length) : (decE T ≠ 0 ↔ (chars T).2 ≠ -1) ∧ ((chars T).2 = -1 → decL T = (chars T).1) := by
 unfold decE decL
 have hn : ¬ 65536 < T.length := by omega
 simp only [if_neg hn]
 by_cases h2 : (chars T).2 = -1
 ·simp [h2]
 ·simp [h2]
theorem chs_len : ∀ (f at_ : Nat) (l acc : List Int), (chs f l at_ acc).1.length ≤ acc.length + f
 | 0, at_, l, acc => by simp [chs]
 | f + 1, at_, l, acc => by
  unfold chs
  split
  ·simp only; omega
  ·split
   ·simp
   ·have := chs_len f (at_ + (ch1 (l.drop at_)).2.toNat) l (acc ++ [(ch1 (l.drop at_)).1])
    simp only [List.length_append, List.length_singleton] at this
    omega
theorem chars_len (l : List Int) : (chars l).1.length ≤ l.length + 1 := by
 have := chs_len (l.length + 1) 0 l []
 unfold chars
 simpa using this
end
section
open Go Go.RowKit
theorem atom_eqs {T : List Int} (hT : Bytes T) :
  ((ByteArray.toList (bytesOf T)) == (ByteArray.toList (ByteArray.mk #[35, 116]))) = decide (T = [35, 116]) ∧ ((ByteArray.toList (bytesOf T)) == (ByteArray.toList (ByteArray.mk #[35, 116, 114, 117, 101]))) = decide (T = [35, 116, 114, 117, 101]) ∧
  ((ByteArray.toList (bytesOf T)) == (ByteArray.toList (ByteArray.mk #[35, 102]))) = decide (T = [35, 102]) ∧ ((ByteArray.toList (bytesOf T)) == (ByteArray.toList (ByteArray.mk #[35, 102, 97, 108, 115, 101]))) = decide (T = [35, 102, 97, 108, 115, 101]) ∧
  ((ByteArray.toList (bytesOf T)) == (ByteArray.toList (ByteArray.mk #[]))) = decide (T = []) ∧ ((ByteArray.toList (bytesOf T)) == (ByteArray.toList (ByteArray.mk #[46]))) = decide (T = [46]) := by
 have b : ∀ l : List Int, (∀ x ∈ l, 0 ≤ x ∧ x < 256) → Bytes l := fun l h => h
 refine ⟨eq_bytes (m := [35, 116]) hT (b _ (by decide)), eq_bytes (m := [35, 116, 114, 117, 101]) hT (b _ (by decide)), eq_bytes (m := [35, 102]) hT (b _ (by decide)), eq_bytes (m := [35, 102, 97, 108, 115, 101]) hT (b _ (by decide)), eq_bytes (m := []) hT (b _ (by decide)), eq_bytes (m := [46]) hT (b _ (by decide))⟩
theorem byte0 {T : List Int} (hT : Bytes T) (hne : T ≠ []) : ∃ c : UInt8, (ByteArray.data (bytesOf T))[Int.toNat 0]? = some c ∧ ((c.toNat : Nat) : Int) = rd T 0 :=
 byte_at hT (List.length_pos_iff.2 hne)
theorem head_rd {T : List Int} (hne : T ≠ []) (c : Int) : (T.head? = some c) ↔ rd T 0 = c := by
 cases T with
 | nil => exact absurd rfl hne
 | cons x T => simp [rd]
set_option maxHeartbeats 1000000 in
theorem tAtom_ok (T : List Int) (hT : Bytes T) (hlen : T.length ≤ 16777216) : Fn Tryz.prog 127 [.one (.fz (.str (bytesOf T)))] [] (atomT T) [] := by
 refine token_Atom_fn _ ?_
 obtain ⟨R, hR, hRe⟩ : ∃ R : TV → List Ob → Prop, R (atomT T) [] ∧ (fun r' h' => r' = atomT T ∧ h' = []) = R := ⟨_, ⟨rfl, rfl⟩, rfl⟩
 rw [hRe]
 clear hRe
 unfold token_Atom_H
 obtain ⟨e1, e2, e3, e4, e5, e6⟩ := atom_eqs hT
 rw [map_bs, bs_of hT, e1, e2, e3, e4, e5, e6, size_of]
 clear e1 e2 e3 e4 e5 e6
 refine ⟨fun h => ?_, fun h1 => ⟨fun h => ?_, fun h2 => ⟨fun h => ?_, fun h3 => ⟨fun h => ?_, fun h4 => ?_⟩⟩⟩⟩
 ·rw [atomT_8 (.inl (of_decide_eq_true h))] at hR; exact hR
 ·rw [atomT_8 (.inr (of_decide_eq_true h))] at hR; exact hR
 ·rw [atomT_9 (.inl (of_decide_eq_true h))] at hR; exact hR
 ·rw [atomT_9 (.inr (of_decide_eq_true h))] at hR; exact hR
 have g1 : ¬ trueP T := fun h => h.elim (of_decide_eq_false h1) (of_decide_eq_false h2)
 have g2 : ¬ falseP T := fun h => h.elim (of_decide_eq_false h3) (of_decide_eq_false h4)
 refine ⟨_, _, _, parse_ok T hT (by omega), fun h => ?_, fun h5 => ?_⟩
 ·rw [atomT_7 g1 g2 h] at hR; exact hR
 have hS : symP T → R (atT 4 (bytesOf T) false [] true) [] := fun h => by rw [atomT_4 g1 g2 h5 h] at hR; exact hR
 have hN : ¬ symP T → R (atT 0 (ByteArray.mk #[]) false [] false) [] := fun h => by rw [atomT_0 g1 g2 h5 h] at hR; exact hR
 clear hR
 refine ⟨_, _, _, utfDecode_ok T hT, ?_⟩
 have p1 := HasPrefix_fn (bytesOf T) (ByteArray.mk #[43])
 have p2 := HasPrefix_fn (bytesOf T) (ByteArray.mk #[45])
 rw [show (ByteArray.mk #[43]).data.toList = [UInt8.ofNat 43] from rfl, hasPref T hT 43 (by omega)] at p1
 rw [show (ByteArray.mk #[45]).data.toList = [UInt8.ofNat 45] from rfl, hasPref T hT 45 (by omega)] at p2
 have rest : ∀ (sg : Bool), (T ≠ [] → (sg = true ↔ (rd T 0 = 43 ∨ rd T 0 = 45))) →
   (decide (T = []) = true → R (atT 0 (ByteArray.mk #[]) false [] false) []) ∧ (decide (T = []) = false →
   (decide (T = [46]) = true → R (atT 0 (ByteArray.mk #[]) false [] false) []) ∧ (decide (T = [46]) = false →
   (decide ((64 : Int) < ((T.length : Nat) : Int)) = true → R (atT 0 (ByteArray.mk #[]) false [] false) []) ∧ (decide ((64 : Int) < ((T.length : Nat) : Int)) = false →
   ((decE T != 0) = true → R (atT 0 (ByteArray.mk #[]) false [] false) []) ∧ ((decE T != 0) = false →
   ∃ b17 : Bool, Fn Tryz.prog 137 [fzS .i64 (decL T), .one (.fz (.fn 138 []))] [] (fzB b17) [] ∧
   (b17 = true → R (atT 0 (ByteArray.mk #[]) false [] false) []) ∧ (b17 = false → (0 : Int) ≤ 0 ∧ ∃ c2 : UInt8, (ByteArray.data (bytesOf T))[Int.toNat 0]? = some c2 ∧
   (((((UInt8.toNat c2) : Nat) : Int) == 35) = true → R (atT 0 (ByteArray.mk #[]) false [] false) []) ∧ (((((UInt8.toNat c2) : Nat) : Int) == 35) = false →
   ∃ b18 : Bool, Fn Tryz.prog 139 [.one (.fz (.str (bytesOf T))), fzI .i64 0] [] (fzB b18) [] ∧
   (b18 = true → R (atT 0 (ByteArray.mk #[]) false [] false) []) ∧ (b18 = false →
   (sg = true → ∃ b19 : Bool, Fn Tryz.prog 139 [.one (.fz (.str (bytesOf T))), fzI .i64 1] [] (fzB b19) [] ∧ (b19 = true → R (atT 0 (ByteArray.mk #[]) false [] false) []) ∧ (b19 = false → R (atT 4 (bytesOf T) false [] true) [])) ∧
   (sg = false → R (atT 4 (bytesOf T) false [] true) [])))))))) := by
  intro sg hsg
  refine ⟨fun h => hN fun hs => hs.1 (of_decide_eq_true h), fun h => ?_⟩
  have hne : T ≠ [] := of_decide_eq_false h
  refine ⟨fun h => hN fun hs => hs.2.1 (of_decide_eq_true h), fun h6 => ⟨fun h => hN fun hs => ?_, fun h => ?_⟩⟩
  ·have := of_decide_eq_true h
   have := hs.2.2.1
   omega
  have hl : ¬ 64 < T.length := by have := of_decide_eq_false h; omega
  obtain ⟨d1, d2⟩ := decE_small hl
  rw [bne_t, bne_f]
  refine ⟨fun h => hN fun hs => (d1.1 h) hs.2.2.2.1, fun h => ?_⟩
  have hc : (chars T).2 = -1 := by
   by_cases hc : (chars T).2 = -1
   ·exact hc
   ·exact absurd h (d1.2 hc)
  have hcl := chars_len T
  rw [d2 hc]
  refine ⟨_, anyEnds_ok _ (by omega), fun h => hN fun hs => ?_, fun h7 => ⟨by omega, ?_⟩⟩
  ·have := hs.2.2.2.2.1
   rw [h] at this; cases this
  obtain ⟨c, hcc, hcn⟩ := byte0 hT hne
  refine ⟨c, hcc, ?_⟩
  rw [hcn, beq_t, beq_f]
  refine ⟨fun h => hN fun hs => hs.2.2.2.2.2.1 h, fun h8 => ⟨_, tdigit_ok T hT 0, fun h => hN fun hs => ?_, fun h9 => ⟨fun h => ⟨_, tdigit_ok T hT 1, fun h2 => hN fun hs => ?_, fun h2 => hS ?_⟩, fun h => hS ?_⟩⟩⟩
  ·have := hs.2.2.2.2.2.2.1
   rw [h] at this; cases this
  ·exact hs.2.2.2.2.2.2.2 ⟨(hsg hne).1 h, h2⟩
  ·exact ⟨hne, of_decide_eq_false h6, by omega, hc, h7, h8, h9, fun hx => by rw [hx.2] at h2; cases h2⟩
  ·exact ⟨hne, of_decide_eq_false h6, by omega, hc, h7, h8, h9, fun hx => by rw [(hsg hne).2 hx.1] at h; cases h⟩
 refine ⟨_, p1, fun h => ?_, fun h => ⟨_, p2, ?_⟩⟩
 ·obtain ⟨r1, r2⟩ := rest true (fun hne => ⟨fun _ => .inl ((head_rd hne _).1 (of_decide_eq_true h)), fun _ => rfl⟩)
  refine ⟨r1, fun k1 => ⟨(r2 k1).1, fun k2 => ⟨((r2 k1).2 k2).1, fun k3 => ⟨(((r2 k1).2 k2).2 k3).1, fun k4 => ?_⟩⟩⟩⟩
  obtain ⟨b, q1, q2, q3⟩ := (((r2 k1).2 k2).2 k3).2 k4
  refine ⟨b, q1, q2, fun k5 => ?_⟩
  obtain ⟨q4, c, q5, q6, q7⟩ := q3 k5
  refine ⟨q4, c, q5, q6, fun k6 => ?_⟩
  obtain ⟨b, q8, q9, q10⟩ := q7 k6
  exact ⟨b, q8, q9, fun k7 => (q10 k7).1 rfl⟩
 ·have hs : ∀ hne : T ≠ [], (decide (T.head? = some ((45 : Nat) : Int)) = true ↔ (rd T 0 = 43 ∨ rd T 0 = 45)) := fun hne => by
   rw [decide_eq_true_eq, head_rd hne]
   have := of_decide_eq_false h
   rw [head_rd hne] at this
   omega
  exact rest _ hs
theorem drop_rd' (l : List Int) (j : Nat) (h : j < l.length) : l.drop j = rd l j :: l.drop (j + 1) := by
 rw [rd_at l j h]; exact List.drop_eq_getElem_cons h
theorem chL_eq (T : List Int) (h : (chars T).2 = -1) : chL T = (chars T).1 := if_pos h
theorem chs_bad : ∀ (f at_ : Nat) (l acc : List Int), (chs f l at_ acc).2 = -1 ∨ 0 ≤ (chs f l at_ acc).2
 | 0, at_, l, acc => by simp [chs]
 | f + 1, at_, l, acc => by
  unfold chs
  split
  ·simp
  ·split
   ·right; simp only; omega
   ·exact chs_bad f _ l _
theorem rAtom_loop (T : List Int) (xs : List Int) (hl : xs.length ≤ 1000000000) (R : TV → List Ob → Prop) (hS : xs.any endsB = false → R (atT 4 (bytesOf T) false [] true) []) (hN : xs.any endsB = true → R (atT 0 (ByteArray.mk #[]) false [] false) []) :
  ∀ (d j : Nat), j + d = xs.length → xs.any endsB = (xs.drop j).any endsB → ref02_Atom_L0 R (bytesOf T) (ints .i64 xs) j
 | 0, j, hj, h => by
  refine ref02_Atom_l0 ?_
  unfold ref02_Atom_R0
  rw [ints_len, dec_t, dec_f]
  refine ⟨fun h => by omega, fun _ => hS ?_⟩
  rw [h, List.drop_of_length_le (by omega)]; rfl
 | d + 1, j, hj, h => by
  have hF := rEnds_ok (rd xs j)
  have hg : (ints .i64 xs)[j]? = some [.int .i64 (rd xs j)] := by simp [ints, rd_at xs j (by omega), show j < xs.length by omega]
  refine ref02_Atom_l0 ?_
  unfold ref02_Atom_R0
  have e : IntKind.wrap .i64 ((j : Int) + 1) = ((j + 1 : Nat) : Int) := w64 (by omega) (by omega)
  rw [ints_len, dec_t, dec_f, e]
  rw [drop_rd' xs j (by omega), List.any_cons] at h
  refine ⟨fun _ => ⟨by omega, _, hg, _, hF, fun h1 => hN (by rw [h, h1, Bool.true_or]), fun h1 => ?_⟩, fun h => by omega⟩
  exact rAtom_loop T xs hl R hS hN d (j + 1) (by omega) (by rw [h, h1, Bool.false_or])
set_option maxHeartbeats 1000000 in
theorem rAtom_ok (T : List Int) (hT : Bytes T) (hlen : T.length ≤ 16777216) : Fn Tryz.prog 116 [.one (.fz (.str (bytesOf T)))] [] (atomT T) [] := by
 refine ref02_Atom_fn _ ?_
 obtain ⟨R, hR, hRe⟩ : ∃ R : TV → List Ob → Prop, R (atomT T) [] ∧ (fun r' h' => r' = atomT T ∧ h' = []) = R := ⟨_, ⟨rfl, rfl⟩, rfl⟩
 rw [hRe]
 clear hRe
 unfold ref02_Atom_H
 obtain ⟨e1, e2, e3, e4, e5, e6⟩ := atom_eqs hT
 rw [map_bs, bs_of hT, e1, e2, e3, e4, e6, size_of]
 clear e1 e2 e3 e4 e5 e6
 refine ⟨fun h => ?_, fun h1 => ⟨fun h => ?_, fun h2 => ⟨fun h => ?_, fun h3 => ⟨fun h => ?_, fun h4 => ?_⟩⟩⟩⟩
 ·rw [atomT_8 (.inl (of_decide_eq_true h))] at hR; exact hR
 ·rw [atomT_8 (.inr (of_decide_eq_true h))] at hR; exact hR
 ·rw [atomT_9 (.inl (of_decide_eq_true h))] at hR; exact hR
 ·rw [atomT_9 (.inr (of_decide_eq_true h))] at hR; exact hR
 have g1 : ¬ trueP T := fun h => h.elim (of_decide_eq_false h1) (of_decide_eq_false h2)
 have g2 : ¬ falseP T := fun h => h.elim (of_decide_eq_false h3) (of_decide_eq_false h4)
 refine ⟨_, _, _, rparse_ok T hT (by omega), fun h => ?_, fun h5 => ?_⟩
 ·rw [atomT_7 g1 g2 h] at hR; exact hR
 have hS : symP T → R (atT 4 (bytesOf T) false [] true) [] := fun h => by rw [atomT_4 g1 g2 h5 h] at hR; exact hR
 have hN : ¬ symP T → R (atT 0 (ByteArray.mk #[]) false [] false) [] := fun h => by rw [atomT_0 g1 g2 h5 h] at hR; exact hR
 clear hR
 refine ⟨fun h => hN fun hs => ?_, fun h => ?_⟩
 ·have h1 := of_decide_eq_true h
  have := List.length_pos_iff.2 hs.1
  omega
 have hne : T ≠ [] := by
  have h1 := of_decide_eq_false h
  exact List.length_pos_iff.1 (by omega)
 refine ⟨fun h => hN fun hs => ?_, fun h => ?_⟩
 ·have := of_decide_eq_true h
  have := hs.2.2.1
  omega
 have hl : ¬ 64 < T.length := by have := of_decide_eq_false h; omega
 refine ⟨fun h => hN fun hs => hs.2.1 (of_decide_eq_true h), fun h6 => ⟨by omega, ?_⟩⟩
 obtain ⟨c, hcc, hcn⟩ := byte0 hT hne
 refine ⟨c, hcc, ?_⟩
 rw [hcn, beq_t, beq_f]
 refine ⟨fun h => hN fun hs => hs.2.2.2.2.2.1 h, fun h8 => ⟨_, rdigit_ok T hT 0, fun h => hN fun hs => ?_, fun h9 => ⟨by omega, c, hcc, ?_⟩⟩⟩
 ·have := hs.2.2.2.2.2.2.1
  rw [h] at this; cases this
 rw [hcn, beq_t, beq_f]
 have last : ¬ ((rd T 0 = 43 ∨ rd T 0 = 45) ∧ digB T 1 = true) → (decide ((0 : Int) ≤ (chars T).2) = true → R (atT 0 (ByteArray.mk #[]) false [] false) []) ∧ (decide ((0 : Int) ≤ (chars T).2) = false → ref02_Atom_L0 R (bytesOf T) (ints .i64 (chL T)) 0) := by
  intro hsg
  refine ⟨fun h => hN fun hs => ?_, fun h => ?_⟩
  ·have h1 := of_decide_eq_true h
   have := hs.2.2.2.1
   omega
  ·have h1 := of_decide_eq_false h
   have hc : (chars T).2 = -1 := by
    rcases chs_bad (T.length + 1) 0 T [] with h2 | h2
    ·exact h2
    ·exact absurd h2 h1
   rw [chL_eq T hc]
   have hcl := chars_len T
   refine rAtom_loop T _ (by omega) R (fun h7 => hS ⟨hne, of_decide_eq_false h6, by omega, hc, h7, h8, h9, hsg⟩) (fun h7 => hN fun hs => ?_) (chars T).1.length 0 (by omega) rfl
   have := hs.2.2.2.2.1
   rw [h7] at this; cases this
 refine ⟨fun h => ⟨_, rdigit_ok T hT 1, fun h2 => hN fun hs => hs.2.2.2.2.2.2.2 ⟨.inl h, h2⟩, fun h2 => ⟨_, _, rChars_ok T hT (by omega), last fun hx => by rw [hx.2] at h2; cases h2⟩⟩, fun h43 => ⟨by omega, c, hcc, ?_⟩⟩
 rw [hcn, beq_t, beq_f]
 refine ⟨fun h => ⟨_, rdigit_ok T hT 1, fun h2 => hN fun hs => hs.2.2.2.2.2.2.2 ⟨.inr h, h2⟩, fun h2 => ⟨_, _, rChars_ok T hT (by omega), last fun hx => by rw [hx.2] at h2; cases h2⟩⟩, fun h45 => ⟨_, _, rChars_ok T hT (by omega), last fun hx => hx.1.elim h43 h45⟩⟩
end
section
theorem Ty.inv_bool {P : Program} {t : TypeId} {fs : List FV} (h : Ty P t fs) (hu : P.underlying t = some .bool) : ∃ b, fs = [.bool b] := by
 cases h <;> simp_all
theorem Ty.inv_int {P : Program} {t : TypeId} {k : IntKind} {fs : List FV} (h : Ty P t fs) (hu : P.underlying t = some (.int k)) : ∃ n, fs = [.int k n] ∧ k.min ≤ n ∧ n ≤ k.max := by
 cases h <;> simp_all
theorem Ty.inv_str {P : Program} {t : TypeId} {fs : List FV} (h : Ty P t fs) (hu : P.underlying t = some .string) : ∃ s, fs = [.str s] ∧ s.size ≤ reachBytes := by
 cases h <;> simp_all
theorem Ty.inv_sl {P : Program} {t e : TypeId} {fs : List FV} (h : Ty P t fs) (hu : P.underlying t = some (.slice e)) : ∃ es, fs = [.sl (P.cellsOf e) es] ∧ es.length * P.bytesOf e ≤ reachBytes ∧ ∀ x ∈ es, Ty P e x := by
 cases h <;> simp_all
theorem Ty.inv_struct {P : Program} {t : TypeId} {ds : Array Field} {fs : List FV} (h : Ty P t fs) (hu : P.underlying t = some (.struct ds)) : ∃ parts : List (List FV), fs = parts.flatten ∧ parts.length = ds.size ∧ ∀ (i : Nat) (f : Field) (x : List FV), ds[i]? = some f → parts[i]? = some x → Ty P f.type x := by
 cases h <;> simp_all
 exact ⟨_, rfl, ‹_›, ‹_›⟩
theorem Ty.inv_ints {P : Program} {t e : TypeId} {k : IntKind} {fs : List FV} (h : Ty P t fs) (hu : P.underlying t = some (.slice e)) (he : P.underlying e = some (.int k)) (hc : P.cellsOf e = 1) :
  ∃ l, fs = [.sl 1 (ints k l)] ∧ (∀ x ∈ l, k.min ≤ x ∧ x ≤ k.max) ∧ l.length * P.bytesOf e ≤ reachBytes := by
 obtain ⟨es, rfl, h1, h2⟩ := h.inv_sl hu
 have : ∃ l, es = ints k l ∧ ∀ x ∈ l, k.min ≤ x ∧ x ≤ k.max := by
  clear h1 h
  induction es with
  | nil => exact ⟨[], rfl, by simp⟩
  | cons x es ih =>
   obtain ⟨l, rfl, h3⟩ := ih fun y hy => h2 y (List.mem_cons_of_mem _ hy)
   obtain ⟨n, rfl, h4, h5⟩ := (h2 x List.mem_cons_self).inv_int he
   exact ⟨n :: l, by simp [ints], fun y hy => by
    rcases List.mem_cons.1 hy with rfl | hy
    ·exact ⟨h4, h5⟩
    ·exact h3 y hy⟩
 obtain ⟨l, rfl, h3⟩ := this
 exact ⟨l, by rw [hc], h3, by rwa [ints_len] at h1⟩
theorem two_parts {α : Type} {l : List α} (h : l.length = 2) : ∃ a b, l = [a, b] := by
 match l, h with
 | [a, b], _ => exact ⟨a, b, rfl⟩
theorem tyV_int {t : TypeId} {k : IntKind} {x : TV} (h : TyV Tryz.prog t x) (hu : Tryz.prog.underlying t = some (.int k)) : ∃ n, x = fzI k n ∧ k.min ≤ n ∧ n ≤ k.max := by
 rcases h with ⟨fs, rfl, h, ds, hd⟩ | ⟨f, rfl, h⟩
 ·rw [hu] at hd; cases hd
 ·obtain ⟨n, h, h1, h2⟩ := h.inv_int hu
  cases h
  exact ⟨n, rfl, h1, h2⟩
theorem ty_Int {fs : List FV} (h : Ty Tryz.prog 24 fs) : ∃ s l, fs = [.bool s, .sl 1 (ints .u32 l)] ∧ U32 l ∧ l.length * 4 ≤ reachBytes := by
 obtain ⟨parts, rfl, h1, h2⟩ := h.inv_struct Tryz.underlying24
 obtain ⟨a, b, rfl⟩ := two_parts h1
 obtain ⟨s, rfl⟩ := (h2 0 _ a rfl rfl).inv_bool Tryz.underlying4
 obtain ⟨l, rfl, h3, h4⟩ := (h2 1 _ b rfl rfl).inv_ints Tryz.underlying22 Tryz.underlying89 (by kernel_rfl)
 refine ⟨s, l, rfl, fun x hx => ?_, ?_⟩
 ·have := h3 x hx
  simp [IntKind.min, IntKind.max, IntKind.signed, IntKind.bits] at this
  omega
 ·have e : Tryz.prog.bytesOf 89 = 4 := by kernel_rfl
  rwa [e] at h4
end
section
inductive Dt where
 | mk (kind : Int) (text : ByteArray) (neg : Bool) (limbs : List Int) (list : List Dt) (at_ : Int)
mutual
def Dt.row : Dt → List FV
 | .mk k t n l ds a => [.int .i64 k, .str t, .bool n, .sl 1 (ints .u32 l), .sl 6 (Dt.rows ds), .int .i64 a]
def Dt.rows : List Dt → List (List FV)
 | [] => []
 | d :: ds => d.row :: Dt.rows ds
end
abbrev fzD (d : Dt) : TV := .agg (d.row.map .fz)
theorem rows_get : ∀ (ds : List Dt) (i : Nat), (Dt.rows ds)[i]? = ds[i]?.map Dt.row
 | [], i => by simp [Dt.rows]
 | d :: ds, 0 => by simp [Dt.rows]
 | d :: ds, i + 1 => by simp [Dt.rows, rows_get ds i]
theorem rows_len (ds : List Dt) : (Dt.rows ds).length = ds.length := by
 induction ds with
 | nil => rfl
 | cons d ds ih => simp [Dt.rows, ih]
theorem rows_app : ∀ (a b : List Dt), Dt.rows (a ++ b) = Dt.rows a ++ Dt.rows b
 | [], b => by simp [Dt.rows]
 | d :: a, b => by simp [Dt.rows, rows_app a b]
def I64 (n : Int) : Prop := -9223372036854775808 ≤ n ∧ n ≤ 9223372036854775807
mutual
def Dt.ok : Dt → Prop
 | .mk k t _ l ds a => I64 k ∧ t.size ≤ 1048576 ∧ U32 l ∧ l.length * 4 ≤ 140737488355328 ∧ ds.length ≤ 1048576 ∧ Dt.oks ds ∧ I64 a
def Dt.oks : List Dt → Prop
 | [] => True
 | d :: ds => d.ok ∧ Dt.oks ds
end
theorem bulkE_mem : ∀ {es : List (List FV)} {x : List FV}, x ∈ es → FV.bulkL x ≤ FV.bulkE es
 | e :: es, x, h => by
  unfold FV.bulkE
  rcases List.mem_cons.1 h with rfl | h
  ·omega
  ·have := bulkE_mem h; omega
end
section
inductive Sx where
 | mk (kind : Int) (text : ByteArray) (neg : Bool) (limbs : List Int) (list : List Sx) (at_ : Int) (marks subs : List Int)
mutual
def Sx.row : Sx → List FV
 | .mk k t n l xs a m s => [.int .i64 k, .str t, .bool n, .sl 1 (ints .u32 l), .sl 8 (Sx.rows xs), .int .i64 a, .sl 1 (ints .i64 m), .sl 1 (ints .i64 s)]
def Sx.rows : List Sx → List (List FV)
 | [] => []
 | x :: xs => x.row :: Sx.rows xs
end
abbrev fzX (x : Sx) : TV := .agg (x.row.map .fz)
theorem srows_get : ∀ (ds : List Sx) (i : Nat), (Sx.rows ds)[i]? = ds[i]?.map Sx.row
 | [], i => by simp [Sx.rows]
 | d :: ds, 0 => by simp [Sx.rows]
 | d :: ds, i + 1 => by simp [Sx.rows, srows_get ds i]
theorem srows_len (ds : List Sx) : (Sx.rows ds).length = ds.length := by
 induction ds with
 | nil => rfl
 | cons d ds ih => simp [Sx.rows, ih]
theorem srows_nil : Sx.rows [] = [] := by simp [Sx.rows]
theorem srows_app : ∀ (a b : List Sx), Sx.rows (a ++ b) = Sx.rows a ++ Sx.rows b
 | [], b => by simp [Sx.rows]
 | d :: a, b => by simp [Sx.rows, srows_app a b]
def All64 (l : List Int) : Prop := (∀ x ∈ l, I64 x) ∧ l.length * 8 ≤ 140737488355328
mutual
def Sx.ok : Sx → Prop
 | .mk k t _ l xs a m s => I64 k ∧ t.size ≤ 1048576 ∧ U32 l ∧ l.length * 4 ≤ 140737488355328 ∧ xs.length ≤ 1048576 ∧ Sx.oks xs ∧ I64 a ∧ All64 m ∧ All64 s
def Sx.oks : List Sx → Prop
 | [] => True
 | d :: ds => d.ok ∧ Sx.oks ds
end
theorem soks_mem : ∀ {ds : List Sx}, Sx.oks ds → ∀ d ∈ ds, d.ok
 | [], _, d, h => by cases h
 | e :: ds, h, d, hd => by
  unfold Sx.oks at h
  rcases List.mem_cons.1 hd with rfl | hd
  ·exact h.1
  ·exact soks_mem h.2 d hd
theorem seven_parts {α : Type} {l : List α} (h : l.length = 7) : ∃ a b c d e f g, l = [a, b, c, d, e, f, g] := by
 match l, h with
 | [a, b, c, d, e, f, g], _ => exact ⟨a, b, c, d, e, f, g, rfl⟩
theorem ty_i64s {fs : List FV} (h : Ty Tryz.prog 26 fs) : ∃ l, fs = [.sl 1 (ints .i64 l)] ∧ All64 l := by
 obtain ⟨l, rfl, h1, h2⟩ := h.inv_ints Tryz.underlying26 Tryz.underlying3 (by kernel_rfl)
 refine ⟨l, rfl, fun x hx => h1 x hx, ?_⟩
 have e : Tryz.prog.bytesOf 3 = 8 := by kernel_rfl
 rw [e] at h2
 exact Nat.le_trans h2 (by decide)
theorem srow_bulk (d : Sx) : 1 ≤ FV.bulkL d.row := by
 obtain ⟨k, t, n, l, ds, a, m, u⟩ := d
 simp only [Sx.row, FV.bulkL, FV.bulk]; omega
theorem srows_bulk : ∀ ds : List Sx, ds.length ≤ FV.bulkE (Sx.rows ds)
 | [] => by simp
 | d :: ds => by
  have h1 := srow_bulk d
  have h2 := srows_bulk ds
  simp only [Sx.rows, FV.bulkE, List.length_cons]; omega
theorem bulk_seven {a b c d e f g : List FV} {n : Nat} (h : FV.bulkL ([a, b, c, d, e, f, g] : List (List FV)).flatten ≤ n) : FV.bulkL a ≤ n ∧ FV.bulkL b ≤ n ∧ FV.bulkL c ≤ n ∧ FV.bulkL d ≤ n ∧ FV.bulkL e ≤ n ∧ FV.bulkL f ≤ n ∧ FV.bulkL g ≤ n := by
 simp only [List.flatten_cons, List.flatten_nil, bulkL_app, FV.bulkL] at h
 omega
theorem ty_Sx_aux {t : TypeId} {fs : List FV} (h : Ty Tryz.prog t fs) (hbk : FV.bulkL fs ≤ 1048576) : (t = 28 → ∃ d : Sx, fs = d.row ∧ d.ok) ∧
  (t = 25 → ∃ ds : List Sx, fs = [.sl 8 (Sx.rows ds)] ∧ ds.length ≤ 1048576 ∧ Sx.oks ds) := by
 have uD := Tryz.underlying28
 have uS := Tryz.underlying25
 induction h with
 | bool b hu => exact ⟨fun e => (by subst e; rw [uD] at hu; cases hu), fun e => (by subst e; rw [uS] at hu; cases hu)⟩
 | int n hu => exact ⟨fun e => (by subst e; rw [uD] at hu; cases hu), fun e => (by subst e; rw [uS] at hu; cases hu)⟩
 | str s hu => exact ⟨fun e => (by subst e; rw [uD] at hu; cases hu), fun e => (by subst e; rw [uS] at hu; cases hu)⟩
 | sl es hu h1 h2 ih =>
  refine ⟨fun e => (by subst e; rw [uD] at hu; cases hu), fun e => ?_⟩
  subst e
  rw [uS] at hu
  cases hu
  have hc : Tryz.prog.cellsOf 28 = 8 := by kernel_rfl
  rw [hc]
  clear h1 h2
  have hbe : FV.bulkE es ≤ 1048576 := by simp only [FV.bulkL, FV.bulk] at hbk; omega
  have : ∃ ds : List Sx, es = Sx.rows ds ∧ Sx.oks ds := by
   clear hbk
   induction es with
   | nil => exact ⟨[], by simp [Sx.rows], by simp [Sx.oks]⟩
   | cons x es ih2 =>
    have hbx := bulkE_mem (es := x :: es) List.mem_cons_self
    simp only [FV.bulkE] at hbe hbx
    obtain ⟨ds, rfl, hds⟩ := ih2 (fun y hy => ih y (List.mem_cons_of_mem _ hy)) (by omega)
    obtain ⟨d, rfl, hd⟩ := (ih x List.mem_cons_self (by omega)).1 rfl
    exact ⟨d :: ds, by simp [Sx.rows], by unfold Sx.oks; exact ⟨hd, hds⟩⟩
  obtain ⟨ds, rfl, hds⟩ := this
  exact ⟨ds, rfl, Nat.le_trans (srows_bulk ds) hbe, hds⟩
 | struct parts hu h1 h2 ih =>
  refine ⟨fun e => ?_, fun e => (by subst e; rw [uS] at hu; cases hu)⟩
  subst e
  rw [uD] at hu
  cases hu
  obtain ⟨a, b, c, d, e, f, g, rfl⟩ := seven_parts h1
  obtain ⟨b1, b2, b3, b4, b5, b6, b7⟩ := bulk_seven hbk
  obtain ⟨k, rfl, k0, k1⟩ := (h2 0 _ a rfl rfl).inv_int Tryz.underlying3
  obtain ⟨s, rfl, hs⟩ := (h2 1 _ b rfl rfl).inv_str Tryz.underlying9
  obtain ⟨n, l, rfl, hl, hl2⟩ := ty_Int (h2 2 _ c rfl rfl)
  obtain ⟨ds, rfl, hd1, hd2⟩ := (ih 3 _ d rfl rfl b4).2 rfl
  obtain ⟨p, rfl, p0, p1⟩ := (h2 4 _ e rfl rfl).inv_int Tryz.underlying3
  obtain ⟨m, rfl, hm⟩ := ty_i64s (h2 5 _ f rfl rfl)
  obtain ⟨u, rfl, hu⟩ := ty_i64s (h2 6 _ g rfl rfl)
  refine ⟨.mk k s n l ds p m u, by simp [Sx.row], ?_⟩
  unfold Sx.ok
  exact ⟨⟨k0, k1⟩, (by simp only [FV.bulkL, FV.bulk] at b2; omega), hl, Nat.le_trans hl2 (by decide), hd1, hd2, ⟨p0, p1⟩, hm, hu⟩
theorem tyV_Sx {x : TV} (h : TyV Tryz.prog 28 x) (hb : x.bulk ≤ 1048576) : ∃ d : Sx, x = fzX d ∧ d.ok ∧ FV.bulkL d.row ≤ 1048576 := by
 rcases h with ⟨fs, rfl, h, _⟩ | ⟨f, rfl, h⟩
 ·rw [bulk_agg] at hb
  obtain ⟨d, rfl, hd⟩ := (ty_Sx_aux h hb).1 rfl
  exact ⟨d, rfl, hd, hb⟩
 ·obtain ⟨d, h, hd⟩ := (ty_Sx_aux h (by simpa [FV.bulkL, TV.bulk] using hb)).1 rfl
  cases d
  simp [Sx.row] at h
end
section
def stx_Sound_lv : List Nat → Keep := lvOf []
def stx_Sound_H (R : TV → List Ob → Prop) (x0 : Int) (x1 : ByteArray) (x2 : Bool) (x3 : LL) (x4 : LL) (x5 : Int) (x6 : LL) (x7 : LL) : Prop :=
 (∃ b5 : Bool, ((Fn Tryz.prog 96 [(TV.agg [(AV.fz (FV.int .i64 x0)), (AV.fz (FV.str x1)), (AV.fz (FV.bool x2)), (AV.fz (FV.sl 1 x3)), (AV.fz (FV.sl 8 x4)), (AV.fz (FV.int .i64 x5)), (AV.fz (FV.sl 1 x6)), (AV.fz (FV.sl 1 x7))]), (TV.one (AV.fz (FV.int .i64 64)))] [] (TV.one (AV.fz (FV.bool b5))) []) ∧ ((((Bool.not b5) = true) → (R (TV.one (AV.fz (FV.bool false))) [])) ∧ (((Bool.not b5) = false) → (∃ n2 : Int, (∃ s1 : ByteArray, (∃ b6 : Bool, (∃ es2 : LL, (∃ es3 : LL, (∃ n3 : Int, ((Fn Tryz.prog 72 [(TV.agg [(AV.fz (FV.int .i64 x0)), (AV.fz (FV.str x1)), (AV.fz (FV.bool x2)), (AV.fz (FV.sl 1 x3)), (AV.fz (FV.sl 8 x4)), (AV.fz (FV.int .i64 x5)), (AV.fz (FV.sl 1 x6)), (AV.fz (FV.sl 1 x7))])] [] (TV.agg [(AV.fz (FV.int .i64 n2)), (AV.fz (FV.str s1)), (AV.fz (FV.bool b6)), (AV.fz (FV.sl 1 es2)), (AV.fz (FV.sl 6 es3)), (AV.fz (FV.int .i64 n3))]) []) ∧ (∃ b7 : Bool, ((Fn Tryz.prog 93 [(TV.agg [(AV.fz (FV.int .i64 n2)), (AV.fz (FV.str s1)), (AV.fz (FV.bool b6)), (AV.fz (FV.sl 1 es2)), (AV.fz (FV.sl 6 es3)), (AV.fz (FV.int .i64 n3))])] [] (TV.one (AV.fz (FV.bool b7))) []) ∧ (((b7 = true) → (∃ b8 : Bool, ((Fn Tryz.prog 94 [(TV.agg [(AV.fz (FV.int .i64 n2)), (AV.fz (FV.str s1)), (AV.fz (FV.bool b6)), (AV.fz (FV.sl 1 es2)), (AV.fz (FV.sl 6 es3)), (AV.fz (FV.int .i64 n3))])] [] (TV.one (AV.fz (FV.bool b8))) []) ∧ ((((Bool.not b8) = true) → (∃ b9 : Bool, ((Fn Tryz.prog 97 [(TV.agg [(AV.fz (FV.int .i64 x0)), (AV.fz (FV.str x1)), (AV.fz (FV.bool x2)), (AV.fz (FV.sl 1 x3)), (AV.fz (FV.sl 8 x4)), (AV.fz (FV.int .i64 x5)), (AV.fz (FV.sl 1 x6)), (AV.fz (FV.sl 1 x7))]), (TV.agg [(AV.fz (FV.sl 1 ([] : LL))), (AV.fz (FV.sl 1 ([] : LL)))])] [] (TV.one (AV.fz (FV.bool b9))) []) ∧ (R (TV.one (AV.fz (FV.bool b9))) [])))) ∧ (((Bool.not b8) = false) → (R (TV.one (AV.fz (FV.bool false))) [])))))) ∧ ((b7 = false) → (R (TV.one (AV.fz (FV.bool false))) []))))))))))))))))
theorem stx_Sound_fn (x0 : Int) (x1 : ByteArray) (x2 : Bool) (x3 : LL) (x4 : LL) (x5 : Int) (x6 : LL) (x7 : LL) {r : TV} {h : List Ob} (H : stx_Sound_H (fun r' h' => r' = r ∧ h' = h) x0 x1 x2 x3 x4 x5 x6 x7) : Fn Tryz.prog 57 [(TV.agg [(AV.fz (FV.int .i64 x0)), (AV.fz (FV.str x1)), (AV.fz (FV.bool x2)), (AV.fz (FV.sl 1 x3)), (AV.fz (FV.sl 8 x4)), (AV.fz (FV.int .i64 x5)), (AV.fz (FV.sl 1 x6)), (AV.fz (FV.sl 1 x7))])] [] r h :=
 Fn.by_tr (M := (modeOf [] [])) (lv := stx_Sound_lv) (own := none) (F := Tryz.f57) (by kernel_rfl) (by kernel_rfl) (by first | decide | simp) (fun _ _ h => h) (by kernel_rfl) H
def stx_Compound_lv : List Nat → Keep := lvOf []
def stx_Compound_H (R : TV → List Ob → Prop) (x0 : Int) (x1 : ByteArray) (x2 : Bool) (x3 : LL) (x4 : LL) (x5 : Int) (x6 : LL) (x7 : LL) : Prop :=
 ((((x0 == 1) = true) → (R (TV.one (AV.fz (FV.bool true))) [])) ∧ (((x0 == 1) = false) → ((((x0 == 2) = true) → (R (TV.one (AV.fz (FV.bool true))) [])) ∧ (((x0 == 2) = false) → (R (TV.one (AV.fz (FV.bool (x0 == 3)))) [])))))
theorem stx_Compound_fn (x0 : Int) (x1 : ByteArray) (x2 : Bool) (x3 : LL) (x4 : LL) (x5 : Int) (x6 : LL) (x7 : LL) {r : TV} {h : List Ob} (H : stx_Compound_H (fun r' h' => r' = r ∧ h' = h) x0 x1 x2 x3 x4 x5 x6 x7) : Fn Tryz.prog 101 [(TV.agg [(AV.fz (FV.int .i64 x0)), (AV.fz (FV.str x1)), (AV.fz (FV.bool x2)), (AV.fz (FV.sl 1 x3)), (AV.fz (FV.sl 8 x4)), (AV.fz (FV.int .i64 x5)), (AV.fz (FV.sl 1 x6)), (AV.fz (FV.sl 1 x7))])] [] r h :=
 Fn.by_tr (M := (modeOf [] [])) (lv := stx_Compound_lv) (own := none) (F := Tryz.f101) (by kernel_rfl) (by kernel_rfl) (by first | decide | simp) (fun _ _ h => h) (by kernel_rfl) H
def stx_other_lv : List Nat → Keep := lvOf []
def stx_other_H (R : TV → List Ob → Prop) (d0 : Int) (d1 : ByteArray) (d2 : Bool) (d3 : List (List FV)) (d4 : List (List FV)) (d5 : Int) : Prop :=
 ((((d0 == 11) = true) → (R (TV.one (AV.fz (FV.bool true))) [])) ∧ (((d0 == 11) = false) → (∃ b1 : Bool, ((Fn Tryz.prog 111 [(TV.one (AV.fz (FV.sl 6 d4))), (TV.one (AV.fz (FV.fn 94 [])))] [] (TV.one (AV.fz (FV.bool b1))) []) ∧ (R (TV.one (AV.fz (FV.bool b1))) [])))))
theorem stx_other_fn (d0 : Int) (d1 : ByteArray) (d2 : Bool) (d3 : LL) (d4 : LL) (d5 : Int) {r : TV} {h : List Ob} (H : stx_other_H (fun r' h' => r' = r ∧ h' = h) d0 d1 d2 d3 d4 d5) : Fn Tryz.prog 94 [(TV.agg [(AV.fz (FV.int .i64 d0)), (AV.fz (FV.str d1)), (AV.fz (FV.bool d2)), (AV.fz (FV.sl 1 d3)), (AV.fz (FV.sl 6 d4)), (AV.fz (FV.int .i64 d5))])] [] r h :=
 Fn.by_tr (M := (modeOf [] [])) (lv := stx_other_lv) (own := none) (F := Tryz.f94) (by kernel_rfl) (by kernel_rfl) (by first | decide | simp) (fun _ _ h => h) (by kernel_rfl) H
def stx_bare_lv : List Nat → Keep := lvOf [([0, 1, 0, 1, 1], ⟨29360140, 0, [], false, false⟩)]
def stx_bare_S0 (x0 : Int) (x1 : ByteArray) (x2 : Bool) (x4 : LL) (x5 : Int) (i : Int) (es : LL) (o : LL) : St := (St.mk [TV.und, TV.und, (TV.one (AV.ptr 0 0 0 0)), (TV.one (AV.ptr 1 0 0 0)), TV.und, TV.und, TV.und, TV.und, TV.und, TV.und, TV.und, TV.und, TV.und, TV.und, TV.und, TV.und, TV.und, TV.und, TV.und, TV.und, TV.und, TV.und, (TV.one (AV.fz (FV.sl 8 x4))), (TV.one (AV.fz (FV.int .i64 (((List.length x4) : Nat) : Int)))), (TV.one (AV.fz (FV.int .i64 i))), TV.und, TV.und, TV.und, TV.und, TV.und, TV.und, TV.und, TV.und, TV.und, TV.und, TV.und, TV.und] [(Ob.g 44 [(AV.fz (FV.int .i64 0)), (AV.fz (FV.str (ByteArray.mk #[]))), (AV.fz (FV.bool false)), (AV.ofl 1 2), (AV.ofl 6 3), (AV.fz (FV.int .i64 0))]), (Ob.g 44 [(AV.fz (FV.int .i64 x0)), (AV.fz (FV.str x1)), (AV.fz (FV.bool x2)), (AV.fz (FV.sl 1 es)), (AV.ofl 6 4), (AV.fz (FV.int .i64 x5))]), (Ob.f 0 1 ([] : LL)), (Ob.f 0 6 ([] : LL)), (Ob.f 0 6 o)])
def stx_bare_L0 (R : TV → List Ob → Prop) (x0 : Int) (x1 : ByteArray) (x2 : Bool) (x4 : LL) (x5 : Int) (i : Int) (es : LL) (o : LL) : Prop := LoopAt Tryz.prog (modeOf [] []) stx_bare_lv Tryz.f72 none R [1, 1, 0, 1, 0] (stx_bare_S0 x0 x1 x2 x4 x5 i es o)
def stx_bare_R0 (R : TV → List Ob → Prop) (x0 : Int) (x1 : ByteArray) (x2 : Bool) (x4 : LL) (x5 : Int) (i : Int) (es : LL) (o : LL) : Prop :=
 ((((decide (i < (((List.length x4) : Nat) : Int))) = true) → (((0 : Int) ≤ i) ∧ (∃ n8 : Int, (∃ s4 : ByteArray, (∃ b4 : Bool, (∃ es13 : LL, (∃ es14 : LL, (∃ n9 : Int, (∃ es15 : LL, (∃ es16 : LL, (((x4)[(Int.toNat i)]? = (some [(FV.int .i64 n8), (FV.str s4), (FV.bool b4), (FV.sl 1 es13), (FV.sl 8 es14), (FV.int .i64 n9), (FV.sl 1 es15), (FV.sl 1 es16)])) ∧ (∃ n10 : Int, (∃ s5 : ByteArray, (∃ b5 : Bool, (∃ es17 : LL, (∃ es18 : LL, (∃ n11 : Int, ((Fn Tryz.prog 72 [(TV.agg [(AV.fz (FV.int .i64 n8)), (AV.fz (FV.str s4)), (AV.fz (FV.bool b4)), (AV.fz (FV.sl 1 es13)), (AV.fz (FV.sl 8 es14)), (AV.fz (FV.int .i64 n9)), (AV.fz (FV.sl 1 es15)), (AV.fz (FV.sl 1 es16))])] [] (TV.agg [(AV.fz (FV.int .i64 n10)), (AV.fz (FV.str s5)), (AV.fz (FV.bool b5)), (AV.fz (FV.sl 1 es17)), (AV.fz (FV.sl 6 es18)), (AV.fz (FV.int .i64 n11))]) []) ∧ (((((List.length o) + (List.length [[(FV.int .i64 n10), (FV.str s5), (FV.bool b5), (FV.sl 1 es17), (FV.sl 6 es18), (FV.int .i64 n11)]])) * 88) ≤ 220000000000000) ∧ (stx_bare_L0 R x0 x1 x2 x4 x5 (IntKind.wrap .i64 (i + 1)) es (o ++ [[(FV.int .i64 n10), (FV.str s5), (FV.bool b5), (FV.sl 1 es17), (FV.sl 6 es18), (FV.int .i64 n11)]]))))))))))))))))))))) ∧ (((decide (i < (((List.length x4) : Nat) : Int))) = false) → (R (TV.agg [(AV.fz (FV.int .i64 x0)), (AV.fz (FV.str x1)), (AV.fz (FV.bool x2)), (AV.fz (FV.sl 1 es)), (AV.fz (FV.sl 6 o)), (AV.fz (FV.int .i64 x5))]) [])))
theorem stx_bare_l0 {R : TV → List Ob → Prop} {x0 : Int} {x1 : ByteArray} {x2 : Bool} {x4 : LL} {x5 : Int} {i : Int} {es : LL} {o : LL} (h : stx_bare_R0 R x0 x1 x2 x4 x5 i es o) : stx_bare_L0 R x0 x1 x2 x4 x5 i es o :=
 LoopAt.by_tr (by kernel_rfl) (by kernel_rfl) h
def stx_bare_H (R : TV → List Ob → Prop) (x0 : Int) (x1 : ByteArray) (x2 : Bool) (x3 : LL) (x4 : LL) (x5 : Int) (x6 : LL) (x7 : LL) : Prop :=
 (∃ es13 : LL, ((Fn Tryz.prog 98 [(TV.one (AV.fz (FV.sl 1 x3)))] [] (TV.one (AV.fz (FV.sl 1 es13))) []) ∧ (stx_bare_L0 R x0 x1 x2 x4 x5 0 es13 ([] : LL))))
theorem stx_bare_fn (x0 : Int) (x1 : ByteArray) (x2 : Bool) (x3 : LL) (x4 : LL) (x5 : Int) (x6 : LL) (x7 : LL) {r : TV} {h : List Ob} (H : stx_bare_H (fun r' h' => r' = r ∧ h' = h) x0 x1 x2 x3 x4 x5 x6 x7) : Fn Tryz.prog 72 [(TV.agg [(AV.fz (FV.int .i64 x0)), (AV.fz (FV.str x1)), (AV.fz (FV.bool x2)), (AV.fz (FV.sl 1 x3)), (AV.fz (FV.sl 8 x4)), (AV.fz (FV.int .i64 x5)), (AV.fz (FV.sl 1 x6)), (AV.fz (FV.sl 1 x7))])] [] r h :=
 Fn.by_tr (M := (modeOf [] [])) (lv := stx_bare_lv) (own := none) (F := Tryz.f72) (by kernel_rfl) (by kernel_rfl) (by first | decide | simp) (fun _ _ h => h) (by kernel_rfl) H
def stx_shallow_lv : List Nat → Keep := lvOf []
def stx_shallow_H (R : TV → List Ob → Prop) (x0 : Int) (x1 : ByteArray) (x2 : Bool) (x3 : LL) (x4 : LL) (x5 : Int) (x6 : LL) (x7 : LL) (room : Int) : Prop :=
 ((((decide ((0 : Int) < room)) = true) → (∃ b1 : Bool, ((Fn Tryz.prog 112 [(TV.one (AV.fz (FV.sl 8 x4))), (TV.one (AV.fz (FV.fn 113 [(false, [(FV.fp [(FV.int .i64 room)])])])))] [] (TV.one (AV.fz (FV.bool b1))) []) ∧ (R (TV.one (AV.fz (FV.bool (Bool.not b1)))) [])))) ∧ (((decide ((0 : Int) < room)) = false) → (R (TV.one (AV.fz (FV.bool false))) [])))
theorem stx_shallow_fn (x0 : Int) (x1 : ByteArray) (x2 : Bool) (x3 : LL) (x4 : LL) (x5 : Int) (x6 : LL) (x7 : LL) (room : Int) {r : TV} {h : List Ob} (H : stx_shallow_H (fun r' h' => r' = r ∧ h' = h) x0 x1 x2 x3 x4 x5 x6 x7 room) : Fn Tryz.prog 96 [(TV.agg [(AV.fz (FV.int .i64 x0)), (AV.fz (FV.str x1)), (AV.fz (FV.bool x2)), (AV.fz (FV.sl 1 x3)), (AV.fz (FV.sl 8 x4)), (AV.fz (FV.int .i64 x5)), (AV.fz (FV.sl 1 x6)), (AV.fz (FV.sl 1 x7))]), (TV.one (AV.fz (FV.int .i64 room)))] [] r h :=
 Fn.by_tr (M := (modeOf [] [])) (lv := stx_shallow_lv) (own := none) (F := Tryz.f96) (by kernel_rfl) (by kernel_rfl) (by first | decide | simp) (fun _ _ h => h) (by kernel_rfl) H
def stx_joined_lv : List Nat → Keep := lvOf []
def stx_joined_H (R : TV → List Ob → Prop) (x0 : Int) (x1 : ByteArray) (x2 : Bool) (x3 : LL) (x4 : LL) (x5 : Int) (x6 : LL) (x7 : LL) (around0 : LL) (around1 : LL) : Prop :=
 (∃ es4 : LL, (∃ es5 : LL, ((Fn Tryz.prog 59 [(TV.agg [(AV.fz (FV.int .i64 x0)), (AV.fz (FV.str x1)), (AV.fz (FV.bool x2)), (AV.fz (FV.sl 1 x3)), (AV.fz (FV.sl 8 x4)), (AV.fz (FV.int .i64 x5)), (AV.fz (FV.sl 1 x6)), (AV.fz (FV.sl 1 x7))])] [] (TV.agg [(AV.fz (FV.sl 1 es4)), (AV.fz (FV.sl 1 es5))]) []) ∧ (∃ es6 : LL, (∃ es7 : LL, (∃ n1 : Int, ((Fn Tryz.prog 32 [(TV.agg [(AV.fz (FV.sl 1 around0)), (AV.fz (FV.sl 1 around1))]), (TV.agg [(AV.fz (FV.sl 1 es4)), (AV.fz (FV.sl 1 es5))])] [] (TV.tup [(true, [(AV.fz (FV.sl 1 es6)), (AV.fz (FV.sl 1 es7))]), (false, [(AV.fz (FV.int .i64 n1))])]) []) ∧ ((((n1 == 0) = true) → (∃ b1 : Bool, ((Fn Tryz.prog 112 [(TV.one (AV.fz (FV.sl 8 x4))), (TV.one (AV.fz (FV.fn 114 [(false, [(FV.fp [(FV.sl 1 es6), (FV.sl 1 es7)])])])))] [] (TV.one (AV.fz (FV.bool b1))) []) ∧ (R (TV.one (AV.fz (FV.bool (Bool.not b1)))) [])))) ∧ (((n1 == 0) = false) → (R (TV.one (AV.fz (FV.bool false))) []))))))))))
theorem stx_joined_fn (x0 : Int) (x1 : ByteArray) (x2 : Bool) (x3 : LL) (x4 : LL) (x5 : Int) (x6 : LL) (x7 : LL) (around0 : LL) (around1 : LL) {r : TV} {h : List Ob} (H : stx_joined_H (fun r' h' => r' = r ∧ h' = h) x0 x1 x2 x3 x4 x5 x6 x7 around0 around1) : Fn Tryz.prog 97 [(TV.agg [(AV.fz (FV.int .i64 x0)), (AV.fz (FV.str x1)), (AV.fz (FV.bool x2)), (AV.fz (FV.sl 1 x3)), (AV.fz (FV.sl 8 x4)), (AV.fz (FV.int .i64 x5)), (AV.fz (FV.sl 1 x6)), (AV.fz (FV.sl 1 x7))]), (TV.agg [(AV.fz (FV.sl 1 around0)), (AV.fz (FV.sl 1 around1))])] [] r h :=
 Fn.by_tr (M := (modeOf [] [])) (lv := stx_joined_lv) (own := none) (F := Tryz.f97) (by kernel_rfl) (by kernel_rfl) (by first | decide | simp) (fun _ _ h => h) (by kernel_rfl) H
def stx_of_lv : List Nat → Keep := lvOf []
def stx_of_H (R : TV → List Ob → Prop) (x0 : Int) (x1 : ByteArray) (x2 : Bool) (x3 : LL) (x4 : LL) (x5 : Int) (x6 : LL) (x7 : LL) : Prop :=
 (R (TV.agg [(AV.fz (FV.sl 1 x6)), (AV.fz (FV.sl 1 x7))]) [])
theorem stx_of_fn (x0 : Int) (x1 : ByteArray) (x2 : Bool) (x3 : LL) (x4 : LL) (x5 : Int) (x6 : LL) (x7 : LL) {r : TV} {h : List Ob} (H : stx_of_H (fun r' h' => r' = r ∧ h' = h) x0 x1 x2 x3 x4 x5 x6 x7) : Fn Tryz.prog 59 [(TV.agg [(AV.fz (FV.int .i64 x0)), (AV.fz (FV.str x1)), (AV.fz (FV.bool x2)), (AV.fz (FV.sl 1 x3)), (AV.fz (FV.sl 8 x4)), (AV.fz (FV.int .i64 x5)), (AV.fz (FV.sl 1 x6)), (AV.fz (FV.sl 1 x7))])] [] r h :=
 Fn.by_tr (M := (modeOf [] [])) (lv := stx_of_lv) (own := none) (F := Tryz.f59) (by kernel_rfl) (by kernel_rfl) (by first | decide | simp) (fun _ _ h => h) (by kernel_rfl) H
def stx_shallow_1_lv : List Nat → Keep := lvOf []
def stx_shallow_1_H (R : TV → List Ob → Prop) (p0 : Int) (p1 : ByteArray) (p2 : Bool) (p3 : LL) (p4 : LL) (p5 : Int) (p6 : LL) (p7 : LL) (room : Int) : Prop :=
 (∃ b1 : Bool, ((Fn Tryz.prog 96 [(TV.agg [(AV.fz (FV.int .i64 p0)), (AV.fz (FV.str p1)), (AV.fz (FV.bool p2)), (AV.fz (FV.sl 1 p3)), (AV.fz (FV.sl 8 p4)), (AV.fz (FV.int .i64 p5)), (AV.fz (FV.sl 1 p6)), (AV.fz (FV.sl 1 p7))]), (TV.one (AV.fz (FV.int .i64 (IntKind.wrap .i64 (room - 1)))))] [] (TV.one (AV.fz (FV.bool b1))) []) ∧ (R (TV.one (AV.fz (FV.bool (Bool.not b1)))) [])))
theorem stx_shallow_1_fn (p0 : Int) (p1 : ByteArray) (p2 : Bool) (p3 : LL) (p4 : LL) (p5 : Int) (p6 : LL) (p7 : LL) (room : Int) {r : TV} {h : List Ob} (H : stx_shallow_1_H (fun r' h' => r' = r ∧ h' = h) p0 p1 p2 p3 p4 p5 p6 p7 room) : Fn Tryz.prog 113 [(TV.agg [(AV.fz (FV.int .i64 p0)), (AV.fz (FV.str p1)), (AV.fz (FV.bool p2)), (AV.fz (FV.sl 1 p3)), (AV.fz (FV.sl 8 p4)), (AV.fz (FV.int .i64 p5)), (AV.fz (FV.sl 1 p6)), (AV.fz (FV.sl 1 p7))]), (TV.one (AV.fz (FV.fp [(FV.int .i64 room)])))] [] r h :=
 Fn.by_tr (M := (modeOf [] [])) (lv := stx_shallow_1_lv) (own := none) (F := Tryz.f113) (by kernel_rfl) (by kernel_rfl) (by first | decide | simp) (fun _ _ h => h) (by kernel_rfl) H
def stx_joined_1_lv : List Nat → Keep := lvOf []
def stx_joined_1_H (R : TV → List Ob → Prop) (p0 : Int) (p1 : ByteArray) (p2 : Bool) (p3 : LL) (p4 : LL) (p5 : Int) (p6 : LL) (p7 : LL) (m : LL) (u : LL) : Prop :=
 (∃ b1 : Bool, ((Fn Tryz.prog 97 [(TV.agg [(AV.fz (FV.int .i64 p0)), (AV.fz (FV.str p1)), (AV.fz (FV.bool p2)), (AV.fz (FV.sl 1 p3)), (AV.fz (FV.sl 8 p4)), (AV.fz (FV.int .i64 p5)), (AV.fz (FV.sl 1 p6)), (AV.fz (FV.sl 1 p7))]), (TV.agg [(AV.fz (FV.sl 1 m)), (AV.fz (FV.sl 1 u))])] [] (TV.one (AV.fz (FV.bool b1))) []) ∧ (R (TV.one (AV.fz (FV.bool (Bool.not b1)))) [])))
theorem stx_joined_1_fn (p0 : Int) (p1 : ByteArray) (p2 : Bool) (p3 : LL) (p4 : LL) (p5 : Int) (p6 : LL) (p7 : LL) (m : LL) (u : LL) {r : TV} {h : List Ob} (H : stx_joined_1_H (fun r' h' => r' = r ∧ h' = h) p0 p1 p2 p3 p4 p5 p6 p7 m u) : Fn Tryz.prog 114 [(TV.agg [(AV.fz (FV.int .i64 p0)), (AV.fz (FV.str p1)), (AV.fz (FV.bool p2)), (AV.fz (FV.sl 1 p3)), (AV.fz (FV.sl 8 p4)), (AV.fz (FV.int .i64 p5)), (AV.fz (FV.sl 1 p6)), (AV.fz (FV.sl 1 p7))]), (TV.one (AV.fz (FV.fp [(FV.sl 1 m), (FV.sl 1 u)])))] [] r h :=
 Fn.by_tr (M := (modeOf [] [])) (lv := stx_joined_1_lv) (own := none) (F := Tryz.f114) (by kernel_rfl) (by kernel_rfl) (by first | decide | simp) (fun _ _ h => h) (by kernel_rfl) H
def wrap_Mark_lv : List Nat → Keep := lvOf []
def wrap_Mark_H (R : TV → List Ob → Prop) (n : Int) : Prop :=
 ((((n == 0) = true) → (R (TV.agg [(AV.fz (FV.sl 1 ([] : LL))), (AV.fz (FV.sl 1 ([] : LL)))]) [])) ∧ (((n == 0) = false) → ((((decide (n < (-1))) = true) → (R (TV.agg [(AV.fz (FV.sl 1 ([] : LL))), (AV.fz (FV.sl 1 ([] : LL)))]) [])) ∧ (((decide (n < (-1))) = false) → (R (TV.agg [(AV.fz (FV.sl 1 [[(FV.int .i64 n)]])), (AV.fz (FV.sl 1 [[(FV.int .i64 0)]]))]) [])))))
theorem wrap_Mark_fn (n : Int) {r : TV} {h : List Ob} (H : wrap_Mark_H (fun r' h' => r' = r ∧ h' = h) n) : Fn Tryz.prog 30 [(TV.one (AV.fz (FV.int .i64 n)))] [] r h :=
 Fn.by_tr (M := (modeOf [] [])) (lv := wrap_Mark_lv) (own := none) (F := Tryz.f30) (by kernel_rfl) (by kernel_rfl) (by first | decide | simp) (fun _ _ h => h) (by kernel_rfl) H
def wrap_Join_lv : List Nat → Keep := lvOf []
def wrap_Join_H (R : TV → List Ob → Prop) (outer0 : LL) (outer1 : LL) (inner0 : LL) (inner1 : LL) : Prop :=
 (∃ b7 : Bool, ((Fn Tryz.prog 58 [(TV.agg [(AV.fz (FV.sl 1 outer0)), (AV.fz (FV.sl 1 outer1))])] [] (TV.one (AV.fz (FV.bool b7))) []) ∧ ((((Bool.not b7) = true) → (R (TV.tup [(true, [(AV.fz (FV.sl 1 ([] : LL))), (AV.fz (FV.sl 1 ([] : LL)))]), (false, [(AV.fz (FV.int .i64 2))])]) [])) ∧ (((Bool.not b7) = false) → (∃ b8 : Bool, ((Fn Tryz.prog 58 [(TV.agg [(AV.fz (FV.sl 1 inner0)), (AV.fz (FV.sl 1 inner1))])] [] (TV.one (AV.fz (FV.bool b8))) []) ∧ ((((Bool.not b8) = true) → (R (TV.tup [(true, [(AV.fz (FV.sl 1 ([] : LL))), (AV.fz (FV.sl 1 ([] : LL)))]), (false, [(AV.fz (FV.int .i64 2))])]) [])) ∧ (((Bool.not b8) = false) → (∃ b9 : Bool, ((Fn Tryz.prog 74 [(TV.agg [(AV.fz (FV.sl 1 outer0)), (AV.fz (FV.sl 1 outer1))]), (TV.agg [(AV.fz (FV.sl 1 inner0)), (AV.fz (FV.sl 1 inner1))])] [] (TV.one (AV.fz (FV.bool b9))) []) ∧ (((b9 = true) → ((((0 : Int) ≤ (IntKind.wrap .i64 ((((List.length outer0) : Nat) : Int) - 1))) ∧ ((IntKind.wrap .i64 ((((List.length outer0) : Nat) : Int) - 1)) ≤ (((List.length outer0) : Nat) : Int))) ∧ ((((0 : Int) ≤ (IntKind.wrap .i64 ((((List.length outer1) : Nat) : Int) - 1))) ∧ ((IntKind.wrap .i64 ((((List.length outer1) : Nat) : Int) - 1)) ≤ (((List.length outer1) : Nat) : Int))) ∧ ((((0 : Int) ≤ 1) ∧ ((1 : Int) ≤ (((List.length inner0) : Nat) : Int))) ∧ ((((0 : Int) ≤ 1) ∧ ((1 : Int) ≤ (((List.length inner1) : Nat) : Int))) ∧ (∃ es4 : LL, ((Fn Tryz.prog 75 [(TV.one (AV.fz (FV.sl 1 [[(FV.sl 1 (List.take (Int.toNat (IntKind.wrap .i64 ((((List.length outer0) : Nat) : Int) - 1))) outer0))], [(FV.sl 1 (List.drop (Int.toNat 1) inner0))]])))] [] (TV.one (AV.fz (FV.sl 1 es4))) []) ∧ (∃ es5 : LL, ((Fn Tryz.prog 75 [(TV.one (AV.fz (FV.sl 1 [[(FV.sl 1 (List.take (Int.toNat (IntKind.wrap .i64 ((((List.length outer1) : Nat) : Int) - 1))) outer1))], [(FV.sl 1 (List.drop (Int.toNat 1) inner1))]])))] [] (TV.one (AV.fz (FV.sl 1 es5))) []) ∧ (∃ b10 : Bool, ((Fn Tryz.prog 76 [(TV.agg [(AV.fz (FV.sl 1 es4)), (AV.fz (FV.sl 1 es5))])] [] (TV.one (AV.fz (FV.bool b10))) []) ∧ ((((Bool.not b10) = true) → (R (TV.tup [(true, [(AV.fz (FV.sl 1 ([] : LL))), (AV.fz (FV.sl 1 ([] : LL)))]), (false, [(AV.fz (FV.int .i64 6))])]) [])) ∧ (((Bool.not b10) = false) → (∃ b11 : Bool, ((Fn Tryz.prog 77 [(TV.agg [(AV.fz (FV.sl 1 es4)), (AV.fz (FV.sl 1 es5))])] [] (TV.one (AV.fz (FV.bool b11))) []) ∧ ((((Bool.not b11) = true) → (R (TV.tup [(true, [(AV.fz (FV.sl 1 ([] : LL))), (AV.fz (FV.sl 1 ([] : LL)))]), (false, [(AV.fz (FV.int .i64 2))])]) [])) ∧ (((Bool.not b11) = false) → (R (TV.tup [(true, [(AV.fz (FV.sl 1 es4)), (AV.fz (FV.sl 1 es5))]), (false, [(AV.fz (FV.int .i64 0))])]) [])))))))))))))))))) ∧ ((b9 = false) → (∃ es6 : LL, ((Fn Tryz.prog 75 [(TV.one (AV.fz (FV.sl 1 [[(FV.sl 1 outer0)], [(FV.sl 1 inner0)]])))] [] (TV.one (AV.fz (FV.sl 1 es6))) []) ∧ (∃ es7 : LL, ((Fn Tryz.prog 75 [(TV.one (AV.fz (FV.sl 1 [[(FV.sl 1 outer1)], [(FV.sl 1 inner1)]])))] [] (TV.one (AV.fz (FV.sl 1 es7))) []) ∧ (∃ b12 : Bool, ((Fn Tryz.prog 76 [(TV.agg [(AV.fz (FV.sl 1 es6)), (AV.fz (FV.sl 1 es7))])] [] (TV.one (AV.fz (FV.bool b12))) []) ∧ ((((Bool.not b12) = true) → (R (TV.tup [(true, [(AV.fz (FV.sl 1 ([] : LL))), (AV.fz (FV.sl 1 ([] : LL)))]), (false, [(AV.fz (FV.int .i64 6))])]) [])) ∧ (((Bool.not b12) = false) → (∃ b13 : Bool, ((Fn Tryz.prog 77 [(TV.agg [(AV.fz (FV.sl 1 es6)), (AV.fz (FV.sl 1 es7))])] [] (TV.one (AV.fz (FV.bool b13))) []) ∧ ((((Bool.not b13) = true) → (R (TV.tup [(true, [(AV.fz (FV.sl 1 ([] : LL))), (AV.fz (FV.sl 1 ([] : LL)))]), (false, [(AV.fz (FV.int .i64 2))])]) [])) ∧ (((Bool.not b13) = false) → (R (TV.tup [(true, [(AV.fz (FV.sl 1 es6)), (AV.fz (FV.sl 1 es7))]), (false, [(AV.fz (FV.int .i64 0))])]) [])))))))))))))))))))))))))
theorem wrap_Join_fn (outer0 : LL) (outer1 : LL) (inner0 : LL) (inner1 : LL) {r : TV} {h : List Ob} (H : wrap_Join_H (fun r' h' => r' = r ∧ h' = h) outer0 outer1 inner0 inner1) : Fn Tryz.prog 32 [(TV.agg [(AV.fz (FV.sl 1 outer0)), (AV.fz (FV.sl 1 outer1))]), (TV.agg [(AV.fz (FV.sl 1 inner0)), (AV.fz (FV.sl 1 inner1))])] [] r h :=
 Fn.by_tr (M := (modeOf [] [])) (lv := wrap_Join_lv) (own := none) (F := Tryz.f32) (by kernel_rfl) (by kernel_rfl) (by first | decide | simp) (fun _ _ h => h) (by kernel_rfl) H
def wrap_Sound_lv : List Nat → Keep := lvOf []
def wrap_Sound_H (R : TV → List Ob → Prop) (w0 : List (List FV)) (w1 : List (List FV)) : Prop :=
 (∃ b2 : Bool, ((Fn Tryz.prog 76 [(TV.agg [(AV.fz (FV.sl 1 w0)), (AV.fz (FV.sl 1 w1))])] [] (TV.one (AV.fz (FV.bool b2))) []) ∧ (((b2 = true) → (∃ b3 : Bool, ((Fn Tryz.prog 77 [(TV.agg [(AV.fz (FV.sl 1 w0)), (AV.fz (FV.sl 1 w1))])] [] (TV.one (AV.fz (FV.bool b3))) []) ∧ (R (TV.one (AV.fz (FV.bool b3))) [])))) ∧ ((b2 = false) → (R (TV.one (AV.fz (FV.bool false))) [])))))
theorem wrap_Sound_fn (w0 : LL) (w1 : LL) {r : TV} {h : List Ob} (H : wrap_Sound_H (fun r' h' => r' = r ∧ h' = h) w0 w1) : Fn Tryz.prog 58 [(TV.agg [(AV.fz (FV.sl 1 w0)), (AV.fz (FV.sl 1 w1))])] [] r h :=
 Fn.by_tr (M := (modeOf [] [])) (lv := wrap_Sound_lv) (own := none) (F := Tryz.f58) (by kernel_rfl) (by kernel_rfl) (by first | decide | simp) (fun _ _ h => h) (by kernel_rfl) H
def wrap_cancels_lv : List Nat → Keep := lvOf []
def wrap_cancels_H (R : TV → List Ob → Prop) (outer0 : LL) (outer1 : LL) (inner0 : LL) (inner1 : LL) : Prop :=
 ((((decide ((0 : Int) < (((List.length outer0) : Nat) : Int))) = true) → ((((decide ((0 : Int) < (((List.length outer1) : Nat) : Int))) = true) → ((((decide ((0 : Int) < (((List.length inner0) : Nat) : Int))) = true) → ((((decide ((0 : Int) < (((List.length inner1) : Nat) : Int))) = true) → (((0 : Int) ≤ (IntKind.wrap .i64 ((((List.length outer0) : Nat) : Int) - 1))) ∧ (∃ n4 : Int, (((outer0)[(Int.toNat (IntKind.wrap .i64 ((((List.length outer0) : Nat) : Int) - 1)))]? = (some [(FV.int .i64 n4)])) ∧ ((((n4 != (-1)) = true) → (((0 : Int) ≤ 0) ∧ (∃ n5 : Int, (((inner0)[(Int.toNat 0)]? = (some [(FV.int .i64 n5)])) ∧ ((((n5 == (-1)) = true) → (((0 : Int) ≤ (IntKind.wrap .i64 ((((List.length outer1) : Nat) : Int) - 1))) ∧ (∃ n6 : Int, (((outer1)[(Int.toNat (IntKind.wrap .i64 ((((List.length outer1) : Nat) : Int) - 1)))]? = (some [(FV.int .i64 n6)])) ∧ ((((n6 == 0) = true) → (((0 : Int) ≤ 0) ∧ (∃ n7 : Int, (((inner1)[(Int.toNat 0)]? = (some [(FV.int .i64 n7)])) ∧ (R (TV.one (AV.fz (FV.bool (n7 == 0)))) []))))) ∧ (((n6 == 0) = false) → (R (TV.one (AV.fz (FV.bool false))) []))))))) ∧ (((n5 == (-1)) = false) → (R (TV.one (AV.fz (FV.bool false))) []))))))) ∧ (((n4 != (-1)) = false) → (R (TV.one (AV.fz (FV.bool false))) []))))))) ∧ (((decide ((0 : Int) < (((List.length inner1) : Nat) : Int))) = false) → (R (TV.one (AV.fz (FV.bool false))) [])))) ∧ (((decide ((0 : Int) < (((List.length inner0) : Nat) : Int))) = false) → (R (TV.one (AV.fz (FV.bool false))) [])))) ∧ (((decide ((0 : Int) < (((List.length outer1) : Nat) : Int))) = false) → (R (TV.one (AV.fz (FV.bool false))) [])))) ∧ (((decide ((0 : Int) < (((List.length outer0) : Nat) : Int))) = false) → (R (TV.one (AV.fz (FV.bool false))) [])))
theorem wrap_cancels_fn (outer0 : LL) (outer1 : LL) (inner0 : LL) (inner1 : LL) {r : TV} {h : List Ob} (H : wrap_cancels_H (fun r' h' => r' = r ∧ h' = h) outer0 outer1 inner0 inner1) : Fn Tryz.prog 74 [(TV.agg [(AV.fz (FV.sl 1 outer0)), (AV.fz (FV.sl 1 outer1))]), (TV.agg [(AV.fz (FV.sl 1 inner0)), (AV.fz (FV.sl 1 inner1))])] [] r h :=
 Fn.by_tr (M := (modeOf [] [])) (lv := wrap_cancels_lv) (own := none) (F := Tryz.f74) (by kernel_rfl) (by kernel_rfl) (by first | decide | simp) (fun _ _ h => h) (by kernel_rfl) H
def wrap_Same_lv : List Nat → Keep := lvOf []
def wrap_Same_H (R : TV → List Ob → Prop) (a0 : List (List FV)) (a1 : List (List FV)) (b0 : List (List FV)) (b1 : List (List FV)) : Prop :=
 (∃ b2 : Bool, ((Fn Tryz.prog 81 [(TV.one (AV.fz (FV.sl 1 a0))), (TV.one (AV.fz (FV.sl 1 b0)))] [] (TV.one (AV.fz (FV.bool b2))) []) ∧ (((b2 = true) → (∃ b3 : Bool, ((Fn Tryz.prog 81 [(TV.one (AV.fz (FV.sl 1 a1))), (TV.one (AV.fz (FV.sl 1 b1)))] [] (TV.one (AV.fz (FV.bool b3))) []) ∧ (R (TV.one (AV.fz (FV.bool b3))) [])))) ∧ ((b2 = false) → (R (TV.one (AV.fz (FV.bool false))) [])))))
theorem wrap_Same_fn (a0 : LL) (a1 : LL) (b0 : LL) (b1 : LL) {r : TV} {h : List Ob} (H : wrap_Same_H (fun r' h' => r' = r ∧ h' = h) a0 a1 b0 b1) : Fn Tryz.prog 103 [(TV.agg [(AV.fz (FV.sl 1 a0)), (AV.fz (FV.sl 1 a1))]), (TV.agg [(AV.fz (FV.sl 1 b0)), (AV.fz (FV.sl 1 b1))])] [] r h :=
 Fn.by_tr (M := (modeOf [] [])) (lv := wrap_Same_lv) (own := none) (F := Tryz.f103) (by kernel_rfl) (by kernel_rfl) (by first | decide | simp) (fun _ _ h => h) (by kernel_rfl) H
def wrap_Wrap_small_lv : List Nat → Keep := lvOf []
def wrap_Wrap_small_H (R : TV → List Ob → Prop) (w0 : List (List FV)) (w1 : List (List FV)) : Prop :=
 ((((decide ((((List.length w0) : Nat) : Int) ≤ 256)) = true) → (R (TV.one (AV.fz (FV.bool (decide ((((List.length w1) : Nat) : Int) ≤ 256))))) [])) ∧ (((decide ((((List.length w0) : Nat) : Int) ≤ 256)) = false) → (R (TV.one (AV.fz (FV.bool false))) [])))
theorem wrap_Wrap_small_fn (w0 : LL) (w1 : LL) {r : TV} {h : List Ob} (H : wrap_Wrap_small_H (fun r' h' => r' = r ∧ h' = h) w0 w1) : Fn Tryz.prog 76 [(TV.agg [(AV.fz (FV.sl 1 w0)), (AV.fz (FV.sl 1 w1))])] [] r h :=
 Fn.by_tr (M := (modeOf [] [])) (lv := wrap_Wrap_small_lv) (own := none) (F := Tryz.f76) (by kernel_rfl) (by kernel_rfl) (by first | decide | simp) (fun _ _ h => h) (by kernel_rfl) H
def wrap_Wrap_sound_lv : List Nat → Keep := lvOf [([0, 1, 0, 1, 1], ⟨3594, 0, [], false, false⟩), ([0, 1, 0, 1, 1, 1], ⟨58720266, 0, [], false, false⟩)]
def wrap_Wrap_sound_S0 (w0 : LL) (w1 : LL) (shifts : Int) (i : Int) : St := (St.mk [TV.und, (TV.one (AV.ptr 0 0 0 0)), TV.und, (TV.one (AV.fz (FV.int .i64 shifts))), TV.und, TV.und, TV.und, TV.und, TV.und, (TV.one (AV.fz (FV.sl 1 w1))), (TV.one (AV.fz (FV.int .i64 (((List.length w1) : Nat) : Int)))), (TV.one (AV.fz (FV.int .i64 i))), TV.und, TV.und, TV.und, TV.und, TV.und, TV.und, TV.und, TV.und, TV.und, TV.und, TV.und, TV.und, TV.und, TV.und, TV.und, TV.und, TV.und, TV.und, TV.und, TV.und, TV.und, TV.und, TV.und, TV.und, TV.und, TV.und, TV.und, TV.und, TV.und, TV.und, TV.und, TV.und, TV.und, TV.und] [(Ob.g 30 [(AV.fz (FV.sl 1 w0)), (AV.fz (FV.sl 1 w1))])])
def wrap_Wrap_sound_L0 (R : TV → List Ob → Prop) (w0 : LL) (w1 : LL) (shifts : Int) (i : Int) : Prop := LoopAt Tryz.prog (modeOf [] []) wrap_Wrap_sound_lv Tryz.f77 none R [1, 1, 0, 1, 0] (wrap_Wrap_sound_S0 w0 w1 shifts i)
def wrap_Wrap_sound_S1 (w0 : LL) (w1 : LL) (shifts1 : Int) (i1 : Int) : St := (St.mk [TV.und, (TV.one (AV.ptr 0 0 0 0)), TV.und, (TV.one (AV.fz (FV.int .i64 shifts1))), TV.und, TV.und, TV.und, TV.und, TV.und, TV.und, TV.und, TV.und, TV.und, TV.und, TV.und, TV.und, TV.und, TV.und, TV.und, TV.und, TV.und, TV.und, TV.und, (TV.one (AV.fz (FV.sl 1 w0))), (TV.one (AV.fz (FV.int .i64 (((List.length w0) : Nat) : Int)))), (TV.one (AV.fz (FV.int .i64 i1))), TV.und, TV.und, TV.und, TV.und, TV.und, TV.und, TV.und, TV.und, TV.und, TV.und, TV.und, TV.und, TV.und, TV.und, TV.und, TV.und, TV.und, TV.und, TV.und, TV.und] [(Ob.g 30 [(AV.fz (FV.sl 1 w0)), (AV.fz (FV.sl 1 w1))])])
def wrap_Wrap_sound_L1 (R : TV → List Ob → Prop) (w0 : LL) (w1 : LL) (shifts1 : Int) (i1 : Int) : Prop := LoopAt Tryz.prog (modeOf [] []) wrap_Wrap_sound_lv Tryz.f77 none R [1, 1, 1, 0, 1, 0] (wrap_Wrap_sound_S1 w0 w1 shifts1 i1)
def wrap_Wrap_sound_R0 (R : TV → List Ob → Prop) (w0 : List (List FV)) (w1 : List (List FV)) (shifts : Int) (i : Int) : Prop :=
 ((((decide (i < (((List.length w1) : Nat) : Int))) = true) → (((0 : Int) ≤ i) ∧ (∃ n6 : Int, (((w1)[(Int.toNat i)]? = (some [(FV.int .i64 n6)])) ∧ ((((decide (n6 < 0)) = true) → (R (TV.one (AV.fz (FV.bool false))) [])) ∧ (((decide (n6 < 0)) = false) → ((((n6 == 0) = true) → (wrap_Wrap_sound_L0 R w0 w1 (IntKind.wrap .i64 (shifts + 1)) (IntKind.wrap .i64 (i + 1)))) ∧ (((n6 == 0) = false) → (wrap_Wrap_sound_L0 R w0 w1 shifts (IntKind.wrap .i64 (i + 1))))))))))) ∧ (((decide (i < (((List.length w1) : Nat) : Int))) = false) → (wrap_Wrap_sound_L1 R w0 w1 shifts 0)))
theorem wrap_Wrap_sound_l0 {R : TV → List Ob → Prop} {w0 : LL} {w1 : LL} {shifts : Int} {i : Int} (h : wrap_Wrap_sound_R0 R w0 w1 shifts i) : wrap_Wrap_sound_L0 R w0 w1 shifts i :=
 LoopAt.by_tr (by kernel_rfl) (by kernel_rfl) h
def wrap_Wrap_sound_R1 (R : TV → List Ob → Prop) (w0 : List (List FV)) (w1 : List (List FV)) (shifts1 : Int) (i1 : Int) : Prop :=
 ((((decide (i1 < (((List.length w0) : Nat) : Int))) = true) → (((0 : Int) ≤ i1) ∧ (∃ n6 : Int, (((w0)[(Int.toNat i1)]? = (some [(FV.int .i64 n6)])) ∧ ((((decide (n6 < 1)) = true) → ((((n6 != (-1)) = true) → (R (TV.one (AV.fz (FV.bool false))) [])) ∧ (((n6 != (-1)) = false) → ((((decide ((0 : Int) < i1)) = true) → (R (TV.one (AV.fz (FV.bool false))) [])) ∧ (((decide ((0 : Int) < i1)) = false) → (wrap_Wrap_sound_L1 R w0 w1 shifts1 (IntKind.wrap .i64 (i1 + 1)))))))) ∧ (((decide (n6 < 1)) = false) → (wrap_Wrap_sound_L1 R w0 w1 shifts1 (IntKind.wrap .i64 (i1 + 1))))))))) ∧ (((decide (i1 < (((List.length w0) : Nat) : Int))) = false) → (R (TV.one (AV.fz (FV.bool (shifts1 == (((List.length w0) : Nat) : Int))))) [])))
theorem wrap_Wrap_sound_l1 {R : TV → List Ob → Prop} {w0 : LL} {w1 : LL} {shifts1 : Int} {i1 : Int} (h : wrap_Wrap_sound_R1 R w0 w1 shifts1 i1) : wrap_Wrap_sound_L1 R w0 w1 shifts1 i1 :=
 LoopAt.by_tr (by kernel_rfl) (by kernel_rfl) h
def wrap_Wrap_sound_H (R : TV → List Ob → Prop) (w0 : List (List FV)) (w1 : List (List FV)) : Prop :=
 (wrap_Wrap_sound_L0 R w0 w1 0 0)
theorem wrap_Wrap_sound_fn (w0 : LL) (w1 : LL) {r : TV} {h : List Ob} (H : wrap_Wrap_sound_H (fun r' h' => r' = r ∧ h' = h) w0 w1) : Fn Tryz.prog 77 [(TV.agg [(AV.fz (FV.sl 1 w0)), (AV.fz (FV.sl 1 w1))])] [] r h :=
 Fn.by_tr (M := (modeOf [] [])) (lv := wrap_Wrap_sound_lv) (own := none) (F := Tryz.f77) (by kernel_rfl) (by kernel_rfl) (by first | decide | simp) (fun _ _ h => h) (by kernel_rfl) H
end
section
theorem srow_at {xs : List Sx} {i : Nat} {x : Sx} (h : xs[i]? = some x) : (Sx.rows xs)[i]? = some x.row := by rw [srows_get, h]; rfl
theorem drow_at {xs : List Dt} {i : Nat} {x : Dt} (h : xs[i]? = some x) : (Dt.rows xs)[i]? = some x.row := by rw [rows_get, h]; rfl
theorem ixShallow_loop (xs : List Sx) (hl : xs.length * 8 ≤ 140737488355328) (room : Int) (p : Sx → Bool) (hp : ∀ x ∈ xs, Fn Tryz.prog 113 [fzX x, .one (.fz (.fp [.int .i64 room]))] [] (fzB (p x)) []) :
  ∀ (d j : Nat), j + d = xs.length → (xs.take j).any p = false → ∃ n : Int, (decide (0 ≤ n) = xs.any p) ∧ ∀ R : TV → List Ob → Prop, R (fzI .i64 n) [] → ixShallow_L0 R (Sx.rows xs) room j
 | 0, j, hj, h => by
  refine ⟨-1, ?_, fun R hR => ixShallow_l0 ?_⟩
  ·rw [List.take_of_length_le (by omega)] at h
   rw [h]; simp
  ·unfold ixShallow_R0
   rw [srows_len, dec_t, dec_f]
   exact ⟨fun h => by omega, fun _ => hR⟩
 | d + 1, j, hj, h => by
  have hx : xs[j]? = some xs[j] := List.getElem?_eq_getElem (by omega)
  have hF := hp xs[j] (List.getElem_mem _)
  have hr := srow_at hx
  generalize hy : xs[j] = y at hx hF hr
  obtain ⟨k, t, n, l, ys, a, m, u⟩ := y
  unfold fzX at hF
  simp only [Sx.row, List.map_cons, List.map_nil] at hF hr
  by_cases hpx : p (.mk k t n l ys a m u) = true
  ·refine ⟨j, ?_, fun R hR => ixShallow_l0 ?_⟩
   ·have : xs.any p = true := List.any_eq_true.2 ⟨_, List.mem_of_getElem? hx, hpx⟩
    rw [this]; simp
   ·unfold ixShallow_R0
    rw [srows_len, dec_t, dec_f]
    refine ⟨fun _ => ⟨by omega, _, _, _, _, _, _, _, _, hr, _, hF, fun _ => hR, fun h => ?_⟩, fun h => by omega⟩
    rw [hpx] at h; cases h
  ·obtain ⟨q, h1, h2⟩ := ixShallow_loop xs hl room p hp d (j + 1) (by omega) (by
    rw [List.take_succ_eq_append_getElem (by omega), List.any_append, h, hy]
    simpa using hpx)
   refine ⟨q, h1, fun R hR => ixShallow_l0 ?_⟩
   unfold ixShallow_R0
   have e : IntKind.wrap .i64 ((j : Int) + 1) = ((j + 1 : Nat) : Int) := w64 (by omega) (by omega)
   rw [srows_len, dec_t, dec_f, e]
   refine ⟨fun _ => ⟨by omega, _, _, _, _, _, _, _, _, hr, _, hF, fun h => absurd h hpx, fun _ => h2 R hR⟩, fun h => by omega⟩
theorem anyShallow (xs : List Sx) (hl : xs.length * 8 ≤ 140737488355328) (room : Int) (p : Sx → Bool) (hp : ∀ x ∈ xs, Fn Tryz.prog 113 [fzX x, .one (.fz (.fp [.int .i64 room]))] [] (fzB (p x)) []) :
  Fn Tryz.prog 112 [.one (.fz (.sl 8 (Sx.rows xs))), .one (.fz (.fn 113 [(false, [.fp [.int .i64 room]])]))] [] (fzB (xs.any p)) [] := by
 obtain ⟨n, h1, h2⟩ := ixShallow_loop xs hl room p hp xs.length 0 (by omega) (by simp)
 refine slices_ContainsFunc_api_Stx_api_Stx_fn _ _ ?_
 unfold slices_ContainsFunc_api_Stx_api_Stx_H
 exact ⟨n, ixShallow_fn _ _ (h2 _ ⟨rfl, rfl⟩), by rw [h1], rfl⟩
mutual
def Sx.shal : Sx → Int → Bool
 | .mk _ _ _ _ xs _ _ _, room => decide (0 < room) && Sx.shalL xs (room - 1)
def Sx.shalL : List Sx → Int → Bool
 | [], _ => true
 | x :: xs, r => x.shal r && Sx.shalL xs r
end
theorem shalL_any (r : Int) : ∀ xs : List Sx, xs.any (fun x => !x.shal r) = !Sx.shalL xs r
 | [] => by simp [Sx.shalL]
 | x :: xs => by rw [List.any_cons, shalL_any r xs]; simp only [Sx.shalL, Bool.not_and]
mutual
theorem shallow_ok : ∀ (x : Sx) (room : Int), x.ok → room ≤ 9223372036854775807 → Fn Tryz.prog 96 [fzX x, fzI .i64 room] [] (fzB (x.shal room)) []
 | .mk k t n l xs a m u, room, hok, hr => by
  unfold Sx.ok at hok
  obtain ⟨_, _, _, _, hxl, hxs, _⟩ := hok
  have hxl : xs.length * 8 ≤ 140737488355328 := by omega
  unfold fzX
  simp only [Sx.row, List.map_cons, List.map_nil]
  refine stx_shallow_fn _ _ _ _ _ _ _ _ _ ?_
  unfold stx_shallow_H Sx.shal
  rw [dec_t, dec_f]
  refine ⟨fun h => ?_, fun h => ?_⟩
  ·have e : IntKind.wrap .i64 (room - 1) = room - 1 := w64 (by omega) (by omega)
   have hall := shallow_all xs (room - 1) hxs (by omega)
   refine ⟨_, anyShallow xs hxl room (fun x => !x.shal (room - 1)) (fun x hx => ?_), ?_⟩
   ·obtain ⟨k', t', n', l', ys, a', m', u'⟩ := x
    have hF := hall _ hx
    unfold fzX at hF ⊢
    simp only [Sx.row, List.map_cons, List.map_nil] at hF ⊢
    refine stx_shallow_1_fn _ _ _ _ _ _ _ _ _ ?_
    unfold stx_shallow_1_H
    rw [e]
    exact ⟨_, hF, rfl, rfl⟩
   ·rw [shalL_any, Bool.not_not, decide_eq_true h]; exact ⟨rfl, rfl⟩
  ·rw [decide_eq_false h]; exact ⟨rfl, rfl⟩
theorem shallow_all : ∀ (xs : List Sx) (room : Int), Sx.oks xs → room ≤ 9223372036854775807 → ∀ x ∈ xs, Fn Tryz.prog 96 [fzX x, fzI .i64 room] [] (fzB (x.shal room)) []
 | [], room, hok, hr => fun x hx => by cases hx
 | y :: xs, room, hok, hr => fun x hx => by
  unfold Sx.oks at hok
  have h1 := shallow_ok y room hok.1 hr
  have h2 := shallow_all xs room hok.2 hr
  rcases List.mem_cons.1 hx with rfl | hx
  ·exact h1
  ·exact h2 x hx
end
mutual
def Dt.others : Dt → Bool
 | .mk k _ _ _ ds _ => Dt.othersL ds || (k == 11)
def Dt.othersL : List Dt → Bool
 | [] => false
 | d :: ds => d.others || Dt.othersL ds
end
theorem othersL_any : ∀ ds : List Dt, ds.any Dt.others = Dt.othersL ds
 | [] => by simp [Dt.othersL]
 | d :: ds => by rw [List.any_cons, othersL_any ds]; simp only [Dt.othersL]
theorem ixOther_loop (xs : List Dt) (hl : xs.length * 8 ≤ 140737488355328) (p : Dt → Bool) (hp : ∀ x ∈ xs, Fn Tryz.prog 94 [fzD x] [] (fzB (p x)) []) :
  ∀ (d j : Nat), j + d = xs.length → (xs.take j).any p = false → ∃ n : Int, (decide (0 ≤ n) = xs.any p) ∧ ∀ R : TV → List Ob → Prop, R (fzI .i64 n) [] → ixOther_L0 R (Dt.rows xs) j
 | 0, j, hj, h => by
  refine ⟨-1, ?_, fun R hR => ixOther_l0 ?_⟩
  ·rw [List.take_of_length_le (by omega)] at h
   rw [h]; simp
  ·unfold ixOther_R0
   rw [rows_len, dec_t, dec_f]
   exact ⟨fun h => by omega, fun _ => hR⟩
 | d + 1, j, hj, h => by
  have hx : xs[j]? = some xs[j] := List.getElem?_eq_getElem (by omega)
  have hF := hp xs[j] (List.getElem_mem _)
  have hr := drow_at hx
  generalize hy : xs[j] = y at hx hF hr
  obtain ⟨k, t, n, l, ys, a⟩ := y
  unfold fzD at hF
  simp only [Dt.row, List.map_cons, List.map_nil] at hF hr
  by_cases hpx : p (.mk k t n l ys a) = true
  ·refine ⟨j, ?_, fun R hR => ixOther_l0 ?_⟩
   ·have : xs.any p = true := List.any_eq_true.2 ⟨_, List.mem_of_getElem? hx, hpx⟩
    rw [this]; simp
   ·unfold ixOther_R0
    rw [rows_len, dec_t, dec_f]
    refine ⟨fun _ => ⟨by omega, _, _, _, _, _, _, hr, _, hF, fun _ => hR, fun h => ?_⟩, fun h => by omega⟩
    rw [hpx] at h; cases h
  ·obtain ⟨q, h1, h2⟩ := ixOther_loop xs hl p hp d (j + 1) (by omega) (by
    rw [List.take_succ_eq_append_getElem (by omega), List.any_append, h, hy]
    simpa using hpx)
   refine ⟨q, h1, fun R hR => ixOther_l0 ?_⟩
   unfold ixOther_R0
   have e : IntKind.wrap .i64 ((j : Int) + 1) = ((j + 1 : Nat) : Int) := w64 (by omega) (by omega)
   rw [rows_len, dec_t, dec_f, e]
   refine ⟨fun _ => ⟨by omega, _, _, _, _, _, _, hr, _, hF, fun h => absurd h hpx, fun _ => h2 R hR⟩, fun h => by omega⟩
mutual
theorem other_ok : ∀ (x : Dt), x.ok → Fn Tryz.prog 94 [fzD x] [] (fzB x.others) []
 | .mk k t n l xs a, hok => by
  unfold Dt.ok at hok
  obtain ⟨_, _, _, _, hxl, hxs, _⟩ := hok
  have hxl : xs.length * 88 ≤ 140737488355328 := by omega
  unfold fzD
  simp only [Dt.row, List.map_cons, List.map_nil]
  refine stx_other_fn _ _ _ _ _ _ ?_
  unfold stx_other_H Dt.others
  have hall := other_all xs hxs
  refine ⟨fun h => ?_, fun h => ?_⟩
  ·rw [h, Bool.or_true]; exact ⟨rfl, rfl⟩
  ·obtain ⟨q, h1, h2⟩ := ixOther_loop xs (by omega) Dt.others hall xs.length 0 (by omega) (by simp)
   refine ⟨_, slices_ContainsFunc_api_Datum_api_Datum_fn _ _ (r := fzB (xs.any Dt.others)) (h := []) ?_, ?_⟩
   ·unfold slices_ContainsFunc_api_Datum_api_Datum_H
    exact ⟨q, ixOther_fn _ (h2 _ ⟨rfl, rfl⟩), by rw [h1], rfl⟩
   ·rw [h, Bool.or_false, othersL_any]; exact ⟨rfl, rfl⟩
theorem other_all : ∀ (xs : List Dt), Dt.oks xs → ∀ x ∈ xs, Fn Tryz.prog 94 [fzD x] [] (fzB x.others) []
 | [], hok => fun x hx => by cases hx
 | y :: xs, hok => fun x hx => by
  unfold Dt.oks at hok
  have h1 := other_ok y hok.1
  have h2 := other_all xs hok.2
  rcases List.mem_cons.1 hx with rfl | hx
  ·exact h1
  ·exact h2 x hx
end
theorem others_loop (k : Int) (t : ByteArray) (n : Bool) (l : List Int) (a : Int) (xs : List Dt) (hl : xs.length * 8 ≤ 140737488355328) (hp : ∀ x ∈ xs, Fn Tryz.prog 70 [fzD x] [] (fzB x.others) [])
  (R : TV → List Ob → Prop) (hR : R (fzB (Dt.othersL xs || (k == 11))) []) : ∀ (d j : Nat), j + d = xs.length → Dt.othersL xs = Dt.othersL (xs.drop j) → ref02_Others_L0 R k t n (ints .u32 l) (Dt.rows xs) a j
 | 0, j, hj, h => by
  refine ref02_Others_l0 ?_
  unfold ref02_Others_R0
  rw [rows_len, dec_t, dec_f]
  refine ⟨fun h => by omega, fun _ => ?_⟩
  rw [h, List.drop_of_length_le (by omega)] at hR
  simpa [Dt.othersL] using hR
 | d + 1, j, hj, h => by
  have hx : xs[j]? = some xs[j] := List.getElem?_eq_getElem (by omega)
  have hF := hp xs[j] (List.getElem_mem _)
  have hr := drow_at hx
  have hd : xs.drop j = xs[j] :: xs.drop (j + 1) := List.drop_eq_getElem_cons (by omega)
  generalize hy : xs[j] = y at hx hF hr hd
  obtain ⟨k', t', n', l', ys, a'⟩ := y
  unfold fzD at hF
  simp only [Dt.row, List.map_cons, List.map_nil] at hF hr
  refine ref02_Others_l0 ?_
  unfold ref02_Others_R0
  have e : IntKind.wrap .i64 ((j : Int) + 1) = ((j + 1 : Nat) : Int) := w64 (by omega) (by omega)
  rw [rows_len, dec_t, dec_f, e]
  rw [hd] at h
  simp only [Dt.othersL] at h
  refine ⟨fun _ => ⟨by omega, _, _, _, _, _, _, hr, _, hF, fun h1 => ?_, fun h1 => ?_⟩, fun h => by omega⟩
  ·rw [h, h1] at hR; simpa using hR
  ·exact others_loop k t n l a xs hl hp R hR d (j + 1) (by omega) (by rw [h, h1, Bool.false_or])
mutual
theorem others_ok : ∀ (x : Dt), x.ok → Fn Tryz.prog 70 [fzD x] [] (fzB x.others) []
 | .mk k t n l xs a, hok => by
  unfold Dt.ok at hok
  obtain ⟨_, _, _, _, hxl, hxs, _⟩ := hok
  have hxl : xs.length * 88 ≤ 140737488355328 := by omega
  have hall := others_all xs hxs
  unfold fzD
  simp only [Dt.row, List.map_cons, List.map_nil]
  refine ref02_Others_fn _ _ _ _ _ _ ?_
  unfold ref02_Others_H Dt.others
  exact others_loop k t n l a xs (by omega) hall _ ⟨rfl, rfl⟩ xs.length 0 (by omega) rfl
theorem others_all : ∀ (xs : List Dt), Dt.oks xs → ∀ x ∈ xs, Fn Tryz.prog 70 [fzD x] [] (fzB x.others) []
 | [], hok => fun x hx => by cases hx
 | y :: xs, hok => fun x hx => by
  unfold Dt.oks at hok
  have h1 := others_ok y hok.1
  have h2 := others_all xs hok.2
  rcases List.mem_cons.1 hx with rfl | hx
  ·exact h1
  ·exact h2 x hx
end
end
section
open Go Go.RowKit
abbrev fzD' (k : Int) (t : ByteArray) (n : Bool) (l : List Int) (ds : List Dt) (a : Int) : TV := .agg [.fz (.int .i64 k), .fz (.str t), .fz (.bool n), .fz (.sl 1 (ints .u32 l)), .fz (.sl 6 (Dt.rows ds)), .fz (.int .i64 a)]
def plB (t : ByteArray) (n : Bool) (l : List Int) (dn : Nat) (text number list : Bool) : Bool := (text || decide (bs t = [])) && ((number || (!n && decide (l.length = 0))) && (list || decide (dn = 0)))
theorem empty_eq (t : ByteArray) : ((ByteArray.toList t) == (ByteArray.toList (ByteArray.mk #[]))) = decide (bs t = []) := by
 have := eq_bytes (m := []) (bs_bytes t) Bytes.nil
 rw [of_bs] at this
 exact this
theorem len_beq (n : Nat) : (((n : Nat) : Int) == 0) = decide (n = 0) := by
 rw [Bool.eq_iff_iff]; simp
theorem rdPlain_ok (k : Int) (t : ByteArray) (n : Bool) (l : List Int) (ds : List Dt) (a : Int) (text number list : Bool) : Fn Tryz.prog 120 [fzD' k t n l ds a, fzB text, fzB number, fzB list] [] (fzB (plB t n l ds.length text number list)) [] := by
 refine read_plain_fn _ _ _ _ _ _ _ _ _ ?_
 obtain ⟨R, hR, hRe⟩ : ∃ R : TV → List Ob → Prop, R (fzB (plB t n l ds.length text number list)) [] ∧ (fun r' h' => r' = (fzB (plB t n l ds.length text number list)) ∧ h' = []) = R := ⟨_, ⟨rfl, rfl⟩, rfl⟩
 rw [hRe]
 clear hRe
 unfold read_plain_H
 rw [ints_len, rows_len, empty_eq, len_beq, len_beq]
 unfold plB at hR
 generalize decide (bs t = []) = x at *
 generalize decide (l.length = 0) = y at *
 generalize decide (ds.length = 0) = z at *
 cases n <;> cases text <;> cases number <;> cases list <;> cases x <;> cases y <;> simp_all
theorem rBare_ok (k : Int) (t : ByteArray) (n : Bool) (l : List Int) (ds : List Dt) (a : Int) (text number list : Bool) : Fn Tryz.prog 115 [fzD' k t n l ds a, fzB text, fzB number, fzB list] [] (fzB (plB t n l ds.length text number list)) [] := by
 refine ref02_bare_fn _ _ _ _ _ _ _ _ _ ?_
 obtain ⟨R, hR, hRe⟩ : ∃ R : TV → List Ob → Prop, R (fzB (plB t n l ds.length text number list)) [] ∧ (fun r' h' => r' = (fzB (plB t n l ds.length text number list)) ∧ h' = []) = R := ⟨_, ⟨rfl, rfl⟩, rfl⟩
 rw [hRe]
 clear hRe
 unfold ref02_bare_H
 rw [ints_len, rows_len, empty_eq, len_beq, len_beq]
 unfold plB at hR
 generalize decide (bs t = []) = x at *
 generalize decide (l.length = 0) = y at *
 generalize decide (ds.length = 0) = z at *
 cases n <;> cases text <;> cases number <;> cases list <;> cases x <;> cases y <;> simp_all
def rcN (T : List Int) : Int := if 65536 < T.length then -1 else if (chars T).2 = -1 then ((chars T).1.length : Int) else -1
theorem rdChars_ok (t : ByteArray) : Fn Tryz.prog 128 [.one (.fz (.str t))] [] (fzI .i64 (rcN (bs t))) [] := by
 refine read_chars_fn _ ?_
 unfold read_chars_H rcN
 rw [map_bs]
 refine ⟨_, _, _, utfDecode_ok (bs t) (bs_bytes t), ?_⟩
 rw [bne_t, bne_f, ints_len]
 unfold decE decL
 by_cases h : 65536 < (bs t).length
 ·simp [h]
 ·by_cases h2 : (chars (bs t)).2 = -1
  ·simp [h, h2]
  ·simp [h, h2]
theorem chs_four : ∀ (f at_ : Nat) (l acc : List Int), Bytes l → l.length - at_ < f → at_ ≤ l.length → (chs f l at_ acc).2 = -1 → l.length - at_ + 4 * acc.length ≤ 4 * (chs f l at_ acc).1.length
 | 0, at_, l, acc, hb, hf, ha, h => by omega
 | f + 1, at_, l, acc, hb, hf, ha, h => by
  unfold chs at h ⊢
  split
  ·simp only; omega
  ·rename_i h1
   rw [if_neg h1] at h
   have hne : l.drop at_ ≠ [] := fun e => by have := congrArg List.length e; simp at this; omega
   have hbd := ch1_bounds (drop_bytes hb at_) hne
   rw [List.length_drop] at hbd
   split
   ·rename_i h2
    rw [if_pos h2] at h
    simp only at h
    omega
   ·rename_i h2
    rw [if_neg h2] at h
    have := chs_four f (at_ + (ch1 (l.drop at_)).2.toNat) l (acc ++ [(ch1 (l.drop at_)).1]) hb (by omega) (by omega) h
    rw [List.length_append, List.length_singleton] at this
    omega
theorem chars_four {l : List Int} (hb : Bytes l) (h : (chars l).2 = -1) : l.length ≤ 4 * (chars l).1.length := by
 have := chs_four (l.length + 1) 0 l [] hb (by omega) (by omega) h
 unfold chars
 simpa using this
def leafB (k : Int) (t : ByteArray) (n : Bool) (l : List Int) (dn : Nat) : Bool :=
 if k = 4 then decide (atomK (bs t) = 4) && plB t n l dn true false false
 else if k = 5 then decide (0 ≤ rcN (bs t) ∧ rcN (bs t) ≤ 4096) && plB t n l dn true false false
 else if k = 6 then decide (rcN (bs t) = 1) && plB t n l dn true false false
 else if k = 7 then sndB n l && plB t n l dn false true false
 else if k = 11 then plB t n l dn true false false
 else if k = 8 ∨ k = 9 ∨ k = 10 then plB t n l dn false false false
 else false
set_option maxHeartbeats 1000000 in
theorem rdLeaf_ok (k : Int) (t : ByteArray) (n : Bool) (l : List Int) (ds : List Dt) (a : Int) (ht : t.size ≤ 1048576) (hl : l.length * 4 ≤ 140737488355328) : Fn Tryz.prog 119 [fzD' k t n l ds a] [] (fzB (leafB k t n l ds.length)) [] := by
 refine read_leaf_fn _ _ _ _ _ _ ?_
 obtain ⟨R, hR, hRe⟩ : ∃ R : TV → List Ob → Prop, R (fzB (leafB k t n l ds.length)) [] ∧ (fun r' h' => r' = (fzB (leafB k t n l ds.length)) ∧ h' = []) = R := ⟨_, ⟨rfl, rfl⟩, rfl⟩
 rw [hRe]
 clear hRe
 unfold read_leaf_H
 unfold leafB at hR
 have hA := tAtom_ok (bs t) (bs_bytes t) (by rw [← size_bs]; omega)
 rw [of_bs] at hA
 simp only [beq_t, beq_f]
 refine ⟨fun h => ⟨_, _, _, _, _, _, _, hA, fun h2 => ⟨fun h3 => ⟨_, rdPlain_ok k t n l ds a _ _ _, ?_⟩, fun h3 => ?_⟩, fun h2 => ?_⟩, fun k4 => ⟨fun h => ⟨_, rdChars_ok t, ?_⟩, fun k5 => ⟨fun h => ⟨_, rdChars_ok t, ?_⟩, fun k6 => ⟨fun h => ⟨_, sound_ok n l (by omega), ?_⟩, fun k7 => ⟨fun h => ⟨_, rdPlain_ok k t n l ds a _ _ _, ?_⟩, fun k11 => ⟨fun h => ⟨_, rdPlain_ok k t n l ds a _ _ _, ?_⟩, fun k8 => ⟨fun h => ⟨_, rdPlain_ok k t n l ds a _ _ _, ?_⟩, fun k9 => ⟨fun h => ⟨_, rdPlain_ok k t n l ds a _ _ _, ?_⟩, fun k10 => ?_⟩⟩⟩⟩⟩⟩⟩⟩
 ·rw [if_pos h, decide_eq_true h3, Bool.true_and] at hR; exact hR
 ·rw [if_pos h, decide_eq_false h3, Bool.false_and] at hR; exact hR
 ·have : ¬ atomK (bs t) = 4 := fun h4 => by rw [h4] at h2; simp at h2
  rw [if_pos h, decide_eq_false this, Bool.false_and] at hR; exact hR
 ·rw [if_neg k4, if_pos h] at hR
  rw [dec_t, dec_f, dec_t, dec_f]
  refine ⟨fun h2 => ⟨fun h3 => ⟨_, rdPlain_ok k t n l ds a _ _ _, ?_⟩, fun h3 => ?_⟩, fun h2 => ?_⟩
  ·rw [decide_eq_true ⟨h2, h3⟩, Bool.true_and] at hR; exact hR
  ·rw [decide_eq_false (fun hx => h3 hx.2), Bool.false_and] at hR; exact hR
  ·rw [decide_eq_false (fun hx => h2 hx.1), Bool.false_and] at hR; exact hR
 ·rw [if_neg k4, if_neg k5, if_pos h] at hR
  refine ⟨fun h2 => ⟨_, rdPlain_ok k t n l ds a _ _ _, ?_⟩, fun h2 => ?_⟩
  ·rw [decide_eq_true h2, Bool.true_and] at hR; exact hR
  ·rw [decide_eq_false h2, Bool.false_and] at hR; exact hR
 ·rw [if_neg k4, if_neg k5, if_neg k6, if_pos h] at hR
  refine ⟨fun h2 => ⟨_, rdPlain_ok k t n l ds a _ _ _, ?_⟩, fun h2 => ?_⟩
  ·rw [h2, Bool.true_and] at hR; exact hR
  ·rw [h2, Bool.false_and] at hR; exact hR
 ·rw [if_neg k4, if_neg k5, if_neg k6, if_neg k7, if_pos h] at hR; exact hR
 ·rw [if_neg k4, if_neg k5, if_neg k6, if_neg k7, if_neg k11, if_pos (.inl h)] at hR; exact hR
 ·rw [if_neg k4, if_neg k5, if_neg k6, if_neg k7, if_neg k11, if_pos (.inr (.inl h))] at hR; exact hR
 ·rw [if_neg k4, if_neg k5, if_neg k6, if_neg k7, if_neg k11, if_pos (.inr (.inr h))] at hR; exact hR
 ·rw [if_neg k4, if_neg k5, if_neg k6, if_neg k7, if_neg k11, if_neg (by omega)] at hR; exact hR
def Dt.kind : Dt → Int
 | .mk k _ _ _ _ _ => k
def dotB (k : Int) (ds : List Dt) : Bool := if k = 2 then match ds.getLast? with
 | some x => decide (2 ≤ ds.length) && (decide (x.kind ≠ 1) && decide (x.kind ≠ 2))
 | none => false
 else true
mutual
def Dt.meas : Dt → Int → Int → Int
 | .mk k t n l ds a, dp, room =>
  if 64 < dp ∨ room < 1 then -1
  else if k = 1 ∨ k = 3 ∨ k = 2 then (if (plB t n l ds.length false false true && dotB k ds) = true then Dt.measL ds (dp + 1) room 1 else -1)
  else if leafB k t n l ds.length = true then 1 else -1
def Dt.measL : List Dt → Int → Int → Int → Int
 | [], _, _, n => n
 | x :: xs, dp, room, n => if x.meas dp (room - n) < 0 then -1 else Dt.measL xs dp room (n + x.meas dp (room - n))
end
mutual
theorem meas_le : ∀ (x : Dt) (dp room : Int), x.meas dp room = -1 ∨ (1 ≤ x.meas dp room ∧ x.meas dp room ≤ room)
 | .mk k t n l ds a, dp, room => by
  unfold Dt.meas
  split
  ·exact .inl rfl
  ·rename_i h
   split
   ·split
    ·exact measL_le ds (dp + 1) room 1 (by omega) (by omega)
    ·exact .inl rfl
   ·split
    ·right; omega
    ·exact .inl rfl
theorem measL_le : ∀ (xs : List Dt) (dp room n : Int), 1 ≤ n → n ≤ room → Dt.measL xs dp room n = -1 ∨ (1 ≤ Dt.measL xs dp room n ∧ Dt.measL xs dp room n ≤ room)
 | [], dp, room, n, h0, h1 => by unfold Dt.measL; exact .inr ⟨h0, h1⟩
 | x :: xs, dp, room, n, h0, h1 => by
  have hx := meas_le x dp (room - n)
  unfold Dt.measL
  split
  ·exact .inl rfl
  ·exact measL_le xs dp room _ (by omega) (by omega)
end
theorem rows_last {ds : List Dt} {x : Dt} (h : ds.getLast? = some x) : ds.length ≠ 0 ∧ (Dt.rows ds)[ds.length - 1]? = some x.row := by
 have hne : ds ≠ [] := fun e => by rw [e] at h; cases h
 refine ⟨fun e => hne (List.length_eq_zero_iff.1 e), drow_at ?_⟩
 rw [← List.getLast?_eq_getElem?]; exact h
theorem getLast_some {ds : List Dt} (h : 2 ≤ ds.length) : ∃ x, ds.getLast? = some x := by
 cases hx : ds.getLast? with
 | some x => exact ⟨x, rfl⟩
 | none => rw [List.getLast?_eq_none_iff] at hx; subst hx; simp at h
theorem dotB_some {xs : List Dt} {x : Dt} (hx : xs.getLast? = some x) : dotB 2 xs = (decide (2 ≤ xs.length) && (decide (x.kind ≠ 1) && decide (x.kind ≠ 2))) := by
 unfold dotB; rw [if_pos rfl, hx]
theorem dotB_short {xs : List Dt} (h : xs.length < 2) : dotB 2 xs = false := by
 unfold dotB
 rw [if_pos rfl]
 cases xs.getLast? with
 | none => rfl
 | some x => simp only; rw [decide_eq_false (by omega), Bool.false_and]
theorem dotB_ne {k : Int} {xs : List Dt} (h : k ≠ 2) : dotB k xs = true := if_neg h
theorem rdMeasure_loop (k : Int) (t : ByteArray) (n : Bool) (l : List Int) (a : Int) (xs : List Dt) (hl : xs.length * 88 ≤ 140737488355328) (dp room : Int) (hd0 : 0 ≤ dp) (hd1 : dp ≤ 64) (hr : room ≤ 8192)
  (hp : ∀ x ∈ xs, ∀ r : Int, r ≤ 8192 → -8192 ≤ r → Fn Tryz.prog 110 [fzD x, fzI .i64 (dp + 1), fzI .i64 r] [] (fzI .i64 (x.meas (dp + 1) r)) [])
  (R : TV → List Ob → Prop) (hR : R (fzI .i64 (if (plB t n l xs.length false false true && dotB k xs) = true then Dt.measL xs (dp + 1) room 1 else -1)) []) :
  ∀ (d j : Nat) (m : Int), j + d = xs.length → 1 ≤ m → m ≤ room → Dt.measL xs (dp + 1) room 1 = Dt.measL (xs.drop j) (dp + 1) room m → read_measure_L0 R k t n (ints .u32 l) (Dt.rows xs) a dp room m j
 | 0, j, m, hj, h0, h1, h => by
  refine read_measure_l0 ?_
  unfold read_measure_R0
  rw [rows_len, dec_t, dec_f]
  refine ⟨fun h => by omega, fun _ => ⟨_, rdPlain_ok k t n l xs a _ _ _, ?_⟩⟩
  rw [h, List.drop_of_length_le (by omega)] at hR
  unfold Dt.measL at hR
  rw [not_t, not_f]
  refine ⟨fun h2 => ?_, fun h2 => ?_⟩
  ·rw [h2] at hR; exact hR
  ·rw [h2, Bool.true_and] at hR
   rw [beq_t, beq_f]
   refine ⟨fun h3 => ?_, fun h3 => ?_⟩
   ·subst h3
    rw [dec_t, dec_f]
    refine ⟨fun h4 => ?_, fun h4 => ?_⟩
    ·rw [dotB_short (by omega)] at hR; exact hR
    ·obtain ⟨x, hx⟩ := getLast_some (ds := xs) (by omega)
     obtain ⟨g1, g2⟩ := rows_last hx
     have e := dotB_some hx
     rw [decide_eq_true (show 2 ≤ xs.length by omega), Bool.true_and] at e
     have e1 : IntKind.wrap .i64 ((xs.length : Int) - 1) = ((xs.length - 1 : Nat) : Int) := by rw [w64 (by omega) (by omega)]; omega
     rw [e1, Int.toNat_natCast]
     obtain ⟨k', t', n', l', ys, a'⟩ := x
     simp only [Dt.row] at g2
     have ek : (Dt.mk k' t' n' l' ys a').kind = k' := rfl
     rw [ek] at e
     refine ⟨by omega, _, _, _, _, _, _, g2, ?_⟩
     rw [beq_t, beq_f, beq_t, beq_f]
     refine ⟨fun h5 => ?_, fun h5 => ⟨fun h6 => ?_, fun h6 => ?_⟩⟩
     ·rw [decide_eq_false (fun hx => hx h5), Bool.false_and] at e
      rw [e] at hR; exact hR
     ·rw [decide_eq_false (p := k' ≠ 2) (fun hx => hx h6), Bool.and_false] at e
      rw [e] at hR; exact hR
     ·rw [decide_eq_true h5, decide_eq_true h6] at e
      rw [e] at hR; exact hR
   ·rw [dotB_ne h3] at hR; exact hR
 | d + 1, j, m, hj, h0, h1, h => by
  have hF := hp xs[j] (List.getElem_mem _) (room - m) (by omega) (by omega)
  have hr' := drow_at (List.getElem?_eq_getElem (show j < xs.length by omega))
  have hd : xs.drop j = xs[j] :: xs.drop (j + 1) := List.drop_eq_getElem_cons (by omega)
  have hle := meas_le xs[j] (dp + 1) (room - m)
  rw [hd] at h
  simp only [Dt.measL] at h
  generalize xs[j] = y at hF hr' h hle
  obtain ⟨k', t', n', l', ys, a'⟩ := y
  unfold fzD at hF
  simp only [Dt.row, List.map_cons, List.map_nil] at hF hr'
  refine read_measure_l0 ?_
  unfold read_measure_R0
  have e : IntKind.wrap .i64 ((j : Int) + 1) = ((j + 1 : Nat) : Int) := w64 (by omega) (by omega)
  have e2 : IntKind.wrap .i64 (dp + 1) = dp + 1 := w64 (by omega) (by omega)
  have e3 : IntKind.wrap .i64 (room - m) = room - m := w64 (by omega) (by omega)
  rw [rows_len, dec_t, dec_f, e, e2, e3]
  refine ⟨fun _ => ⟨by omega, _, _, _, _, _, _, hr', _, hF, ?_⟩, fun h => by omega⟩
  rw [dec_t, dec_f]
  generalize (Dt.mk k' t' n' l' ys a').meas (dp + 1) (room - m) = q at *
  refine ⟨fun h2 => ?_, fun h2 => ?_⟩
  ·rw [if_pos h2] at h
   rw [h] at hR
   simpa using hR
  ·rw [if_neg h2] at h
   have e4 : IntKind.wrap .i64 (m + q) = m + q := w64 (by omega) (by omega)
   rw [e4]
   exact rdMeasure_loop k t n l a xs hl dp room hd0 hd1 hr hp R hR d (j + 1) (m + q) (by omega) (by omega) (by omega) h
mutual
theorem rdMeasure_ok : ∀ (x : Dt) (dp room : Int), x.ok → 0 ≤ dp → dp ≤ 100 → room ≤ 8192 → -8192 ≤ room → Fn Tryz.prog 110 [fzD x, fzI .i64 dp, fzI .i64 room] [] (fzI .i64 (x.meas dp room)) []
 | .mk k t n l xs a, dp, room, hok, h0, h1, h2, h3 => by
  unfold Dt.ok at hok
  obtain ⟨_, ht, _, hl4, hxl, hxs, _⟩ := hok
  have hxl : xs.length * 88 ≤ 140737488355328 := by omega
  have hall := fun (h64 : ¬ 64 < dp) => rdMeasure_all xs (dp + 1) hxs (by omega) (by omega)
  unfold fzD
  simp only [Dt.row, List.map_cons, List.map_nil]
  refine read_measure_fn _ _ _ _ _ _ _ _ ?_
  obtain ⟨R, hR, hRe⟩ : ∃ R : TV → List Ob → Prop, R (fzI .i64 ((Dt.mk k t n l xs a).meas dp room)) [] ∧ (fun r' h' => r' = (fzI .i64 ((Dt.mk k t n l xs a).meas dp room)) ∧ h' = []) = R := ⟨_, ⟨rfl, rfl⟩, rfl⟩
  rw [hRe]
  clear hRe
  unfold read_measure_H
  unfold Dt.meas at hR
  rw [dec_t, dec_f, dec_t, dec_f]
  refine ⟨fun h => ?_, fun h4 => ⟨fun h => ?_, fun h5 => ?_⟩⟩
  ·rw [if_pos (.inl h)] at hR; exact hR
  ·rw [if_pos (.inr h)] at hR; exact hR
  ·rw [if_neg (by omega)] at hR
   have go : (k = 1 ∨ k = 3 ∨ k = 2) → read_measure_L0 R k t n (ints .u32 l) (Dt.rows xs) a dp room 1 0 := fun hk => by
    rw [if_pos hk] at hR
    exact rdMeasure_loop k t n l a xs hxl dp room h0 (by omega) h2 (fun x hx r hr hr' => hall h4 x hx r hr hr') R hR xs.length 0 1 (by omega) (by omega) (by omega) rfl
   rw [beq_t, beq_f, beq_t, beq_f, beq_t, beq_f]
   refine ⟨fun h => go (.inl h), fun k1 => ⟨fun h => go (.inr (.inl h)), fun k3 => ⟨fun h => go (.inr (.inr h)), fun k2 => ⟨_, rdLeaf_ok k t n l xs a ht hl4, ?_⟩⟩⟩⟩
   rw [if_neg (by omega)] at hR
   rw [not_t, not_f]
   refine ⟨fun h => ?_, fun h => ?_⟩
   ·rw [if_neg (by rw [h]; simp)] at hR; exact hR
   ·rw [if_pos h] at hR; exact hR
theorem rdMeasure_all : ∀ (xs : List Dt) (dp : Int), Dt.oks xs → 0 ≤ dp → dp ≤ 100 → ∀ x ∈ xs, ∀ room : Int, room ≤ 8192 → -8192 ≤ room → Fn Tryz.prog 110 [fzD x, fzI .i64 dp, fzI .i64 room] [] (fzI .i64 (x.meas dp room)) []
 | [], dp, hok, h0, h1 => fun x hx => by cases hx
 | y :: xs, dp, hok, h0, h1 => fun x hx room hr hr' => by
  unfold Dt.oks at hok
  have h2 := rdMeasure_ok y dp room hok.1 h0 h1 hr hr'
  have h3 := rdMeasure_all xs dp hok.2 h0 h1
  rcases List.mem_cons.1 hx with rfl | hx
  ·exact h2
  ·exact h3 x hx room hr hr'
end
def Dt.snd (x : Dt) : Bool := decide (0 < x.meas 1 8192)
theorem readSound_ok (x : Dt) (hx : x.ok) : Fn Tryz.prog 93 [fzD x] [] (fzB x.snd) [] := by
 have h := rdMeasure_ok x 1 8192 hx (by omega) (by omega) (by omega) (by omega)
 unfold Dt.snd
 obtain ⟨k, t, n, l, xs, a⟩ := x
 unfold fzD at h ⊢
 simp only [Dt.row, List.map_cons, List.map_nil] at h ⊢
 refine read_Sound_fn _ _ _ _ _ _ ?_
 unfold read_Sound_H
 exact ⟨_, h, rfl, rfl⟩
end
section
open Go Go.RowKit
theorem rcN_str (T : List Int) (hT : Bytes T) : (0 ≤ rcN T ∧ rcN T ≤ 4096) ↔ ((chars T).2 < 0 ∧ (chL T).length ≤ 4096 ∧ T.length ≤ 65536) := by
 unfold rcN chL
 rcases chs_bad (T.length + 1) 0 T [] with h | h
 ·have h' : (chars T).2 = -1 := h
  rw [if_pos h', if_pos h']
  split <;> omega
 ·have h' : ¬ (chars T).2 = -1 := fun e => by have : (chars T).2 = -1 := e; unfold chars at this; omega
  have h'' : ¬ (chars T).2 < 0 := fun e => by unfold chars at e; omega
  rw [if_neg h', if_neg h']
  split <;> omega
theorem rcN_one (T : List Int) (hT : Bytes T) : (rcN T = 1) ↔ ((chars T).2 < 0 ∧ (chL T).length = 1) := by
 unfold rcN chL
 rcases chs_bad (T.length + 1) 0 T [] with h | h
 ·have h' : (chars T).2 = -1 := h
  have h4 := chars_four hT h'
  rw [if_pos h', if_pos h']
  split <;> omega
 ·have h' : ¬ (chars T).2 = -1 := fun e => by have : (chars T).2 = -1 := e; unfold chars at this; omega
  have h'' : ¬ (chars T).2 < 0 := fun e => by unfold chars at e; omega
  rw [if_neg h', if_neg h']
  split <;> omega
def Dt.siz (x : Dt) (dp room : Int) : Int := if x.meas dp room < 0 then 100000 else x.meas dp room
theorem rSize_loop (k : Int) (t : ByteArray) (n : Bool) (l : List Int) (a : Int) (xs : List Dt) (hl : xs.length * 88 ≤ 140737488355328) (dp room : Int) (hd0 : 0 ≤ dp) (hd1 : dp ≤ 64) (hr : room ≤ 8192)
  (hp : ∀ x ∈ xs, ∀ r : Int, r ≤ 8192 → -8192 ≤ r → Fn Tryz.prog 102 [fzD x, fzI .i64 (dp + 1), fzI .i64 r] [] (fzI .i64 (x.siz (dp + 1) r)) [])
  (R : TV → List Ob → Prop) (hR : R (fzI .i64 (if dotB k xs = true ∧ 0 ≤ Dt.measL xs (dp + 1) room 1 then Dt.measL xs (dp + 1) room 1 else 100000)) []) :
  ∀ (d j : Nat) (m : Int), j + d = xs.length → 1 ≤ m → m ≤ room → Dt.measL xs (dp + 1) room 1 = Dt.measL (xs.drop j) (dp + 1) room m → ref02_size_L0 R k t n (ints .u32 l) (Dt.rows xs) a dp room m j
 | 0, j, m, hj, h0, h1, h => by
  refine ref02_size_l0 ?_
  unfold ref02_size_R0
  rw [rows_len, dec_t, dec_f]
  refine ⟨fun h => by omega, fun _ => ?_⟩
  rw [h, List.drop_of_length_le (by omega)] at hR
  unfold Dt.measL at hR
  rw [beq_t, beq_f]
  refine ⟨fun h3 => ?_, fun h3 => ?_⟩
  ·subst h3
   rw [dec_t, dec_f]
   refine ⟨fun h4 => ?_, fun h4 => ?_⟩
   ·rw [if_neg (by rw [dotB_short (by omega)]; simp)] at hR; exact hR
   ·obtain ⟨x, hx⟩ := getLast_some (ds := xs) (by omega)
    obtain ⟨g1, g2⟩ := rows_last hx
    have e := dotB_some hx
    rw [decide_eq_true (show 2 ≤ xs.length by omega), Bool.true_and] at e
    have e1 : IntKind.wrap .i64 ((xs.length : Int) - 1) = ((xs.length - 1 : Nat) : Int) := by rw [w64 (by omega) (by omega)]; omega
    rw [e1, Int.toNat_natCast]
    obtain ⟨k', t', n', l', ys, a'⟩ := x
    simp only [Dt.row] at g2
    have ek : (Dt.mk k' t' n' l' ys a').kind = k' := rfl
    rw [ek] at e
    refine ⟨by omega, _, _, _, _, _, _, g2, ?_⟩
    rw [beq_t, beq_f]
    refine ⟨fun h5 => ?_, fun h5 => ⟨by omega, _, _, _, _, _, _, g2, ?_⟩⟩
    ·rw [decide_eq_false (fun hx => hx h5), Bool.false_and] at e
     rw [if_neg (by rw [e]; simp)] at hR; exact hR
    ·rw [beq_t, beq_f]
     refine ⟨fun h6 => ?_, fun h6 => ?_⟩
     ·rw [decide_eq_false (p := k' ≠ 2) (fun hx => hx h6), Bool.and_false] at e
      rw [if_neg (by rw [e]; simp)] at hR; exact hR
     ·rw [decide_eq_true h5, decide_eq_true h6] at e
      rw [if_pos ⟨e, by omega⟩] at hR; exact hR
  ·rw [if_pos ⟨dotB_ne h3, by omega⟩] at hR; exact hR
 | d + 1, j, m, hj, h0, h1, h => by
  have hF := hp xs[j] (List.getElem_mem _) (room - m) (by omega) (by omega)
  have hr' := drow_at (List.getElem?_eq_getElem (show j < xs.length by omega))
  have hd : xs.drop j = xs[j] :: xs.drop (j + 1) := List.drop_eq_getElem_cons (by omega)
  have hle := meas_le xs[j] (dp + 1) (room - m)
  rw [hd] at h
  simp only [Dt.measL] at h
  unfold Dt.siz at hF
  generalize xs[j] = y at hF hr' h hle
  obtain ⟨k', t', n', l', ys, a'⟩ := y
  unfold fzD at hF
  simp only [Dt.row, List.map_cons, List.map_nil] at hF hr'
  refine ref02_size_l0 ?_
  unfold ref02_size_R0
  have e : IntKind.wrap .i64 ((j : Int) + 1) = ((j + 1 : Nat) : Int) := w64 (by omega) (by omega)
  have e2 : IntKind.wrap .i64 (dp + 1) = dp + 1 := w64 (by omega) (by omega)
  have e3 : IntKind.wrap .i64 (room - m) = room - m := w64 (by omega) (by omega)
  rw [rows_len, dec_t, dec_f, e, e2, e3]
  refine ⟨fun _ => ⟨by omega, _, _, _, _, _, _, hr', _, hF, ?_⟩, fun h => by omega⟩
  rw [dec_t, dec_f]
  generalize (Dt.mk k' t' n' l' ys a').meas (dp + 1) (room - m) = q at *
  by_cases hq : q < 0
  ·rw [if_pos hq] at h ⊢
   have e4 : IntKind.wrap .i64 (m + 100000) = m + 100000 := w64 (by omega) (by omega)
   rw [e4]
   refine ⟨fun _ => ?_, fun h2 => by omega⟩
   rw [if_neg (by omega)] at hR; exact hR
  ·rw [if_neg hq] at h ⊢
   have e4 : IntKind.wrap .i64 (m + q) = m + q := w64 (by omega) (by omega)
   rw [e4]
   refine ⟨fun h2 => by omega, fun _ => ?_⟩
   exact rSize_loop k t n l a xs hl dp room hd0 hd1 hr hp R hR d (j + 1) (m + q) (by omega) (by omega) (by omega) h
set_option maxHeartbeats 1000000 in
theorem rSize_head (k : Int) (t : ByteArray) (n : Bool) (l : List Int) (xs : List Dt) (a dp room : Int) (ht : t.size ≤ 1048576) (hl : l.length * 4 ≤ 140737488355328) (h1 : ¬ 64 < dp) (h2 : ¬ room < 1) (R : TV → List Ob → Prop)
  (hg : (k = 1 ∨ k = 3 ∨ k = 2) → plB t n l xs.length false false true = true → ref02_size_L0 R k t n (ints .u32 l) (Dt.rows xs) a dp room 1 0)
  (hb : (k = 1 ∨ k = 3 ∨ k = 2) → plB t n l xs.length false false true = false → R (fzI .i64 100000) [])
  (hy : ¬ (k = 1 ∨ k = 3 ∨ k = 2) → leafB k t n l xs.length = true → R (fzI .i64 1) [])
  (hn : ¬ (k = 1 ∨ k = 3 ∨ k = 2) → leafB k t n l xs.length = false → R (fzI .i64 100000) []) : ref02_size_H R k t n (ints .u32 l) (Dt.rows xs) a dp room := by
 unfold ref02_size_H
 have hA := rAtom_ok (bs t) (bs_bytes t) (by rw [← size_bs]; omega)
 have hC := rChars_ok (bs t) (bs_bytes t) (by rw [← size_bs]; omega)
 rw [of_bs] at hA
 have hB := fun x y z => rBare_ok k t n l xs a x y z
 rw [map_bs, size_bs]
 have leaf : ∀ (k' : Int) (b : Bool), k = k' → ¬ (k' = 1 ∨ k' = 3 ∨ k' = 2) → leafB k' t n l xs.length = b → (b = true → R (fzI .i64 1) []) ∧ (b = false → R (fzI .i64 100000) []) := by
  intro k' b e h3 h4
  subst e
  exact ⟨fun h => hy h3 (by rw [h4, h]), fun h => hn h3 (by rw [h4, h])⟩
 have list : ∀ (k' : Int), k = k' → (k' = 1 ∨ k' = 3 ∨ k' = 2) → ∃ b : Bool, Fn Tryz.prog 115 [fzD' k t n l xs a, fzB false, fzB false, fzB true] [] (fzB b) [] ∧ ((Bool.not b) = true → R (fzI .i64 100000) []) ∧ ((Bool.not b) = false → ref02_size_L0 R k t n (ints .u32 l) (Dt.rows xs) a dp room 1 0) := by
  intro k' e h3
  subst e
  exact ⟨_, hB _ _ _, fun h => hb h3 (by simpa using h), fun h => hg h3 (by simpa using h)⟩
 rw [dec_t, dec_f, dec_t, dec_f]
 refine ⟨fun h => absurd h h1, fun _ => ⟨fun h => absurd h h2, fun _ => ?_⟩⟩
 simp only [beq_t, beq_f]
 refine ⟨fun h => list 1 h (by omega), fun k1 => ⟨fun h => list 2 h (by omega), fun k2 => ⟨fun h => list 3 h (by omega), fun k3 => ⟨fun h => ?_, fun k4 => ⟨fun h => ?_, fun k5 => ⟨fun h => ?_, fun k6 => ⟨fun h => ?_, fun k7 => ⟨fun h => ?_, fun k8 => ⟨fun h => ?_, fun k9 => ⟨fun h => ?_, fun k10 => ⟨fun h => ?_, fun k11 => ?_⟩⟩⟩⟩⟩⟩⟩⟩⟩⟩⟩
 ·have g := leaf 4 _ h (by omega) rfl
  unfold leafB at g
  rw [if_pos rfl] at g
  refine ⟨_, _, _, _, _, _, _, hA, fun h5 => ⟨fun h6 => ⟨_, hB _ _ _, ?_⟩, fun h6 => ?_⟩, fun h5 => ?_⟩
  ·rw [decide_eq_true h6, Bool.true_and] at g; exact g
  ·rw [decide_eq_false h6, Bool.false_and] at g; exact g.2 rfl
  ·have : ¬ atomK (bs t) = 4 := fun h6 => by rw [h6] at h5; simp at h5
   rw [decide_eq_false this, Bool.false_and] at g; exact g.2 rfl
 ·have g := leaf 5 _ h (by omega) rfl
  unfold leafB at g
  rw [if_neg (by omega), if_pos rfl] at g
  have hs := rcN_str (bs t) (bs_bytes t)
  refine ⟨_, _, hC, ?_⟩
  rw [ints_len, dec_t, dec_f, dec_t, dec_f, dec_t, dec_f]
  refine ⟨fun h5 => ⟨fun h6 => ⟨fun h7 => ⟨_, hB _ _ _, ?_⟩, fun h7 => ?_⟩, fun h6 => ?_⟩, fun h5 => ?_⟩
  ·rw [decide_eq_true (hs.2 ⟨h5, by omega, by omega⟩), Bool.true_and] at g; exact g
  ·rw [decide_eq_false (fun hx => by have := hs.1 hx; omega), Bool.false_and] at g; exact g.2 rfl
  ·rw [decide_eq_false (fun hx => by have := hs.1 hx; omega), Bool.false_and] at g; exact g.2 rfl
  ·rw [decide_eq_false (fun hx => by have := hs.1 hx; omega), Bool.false_and] at g; exact g.2 rfl
 ·have g := leaf 6 _ h (by omega) rfl
  unfold leafB at g
  rw [if_neg (by omega), if_neg (by omega), if_pos rfl] at g
  have hs := rcN_one (bs t) (bs_bytes t)
  refine ⟨_, _, hC, ?_⟩
  rw [ints_len, dec_t, dec_f]
  refine ⟨fun h5 => ⟨fun h6 => ⟨_, hB _ _ _, ?_⟩, fun h6 => ?_⟩, fun h5 => ?_⟩
  ·rw [decide_eq_true (hs.2 ⟨h5, by omega⟩), Bool.true_and] at g; exact g
  ·rw [decide_eq_false (fun hx => h6 (by have := (hs.1 hx).2; omega)), Bool.false_and] at g; exact g.2 rfl
  ·rw [decide_eq_false (fun hx => h5 (hs.1 hx).1), Bool.false_and] at g; exact g.2 rfl
 ·have g := leaf 7 _ h (by omega) rfl
  unfold leafB at g
  rw [if_neg (by omega), if_neg (by omega), if_neg (by omega), if_pos rfl] at g
  refine ⟨_, rsound_ok n l (by omega), fun h5 => ⟨_, hB _ _ _, ?_⟩, fun h5 => ?_⟩
  ·rw [h5, Bool.true_and] at g; exact g
  ·rw [h5, Bool.false_and] at g; exact g.2 rfl
 ·have g := leaf 8 _ h (by omega) rfl
  unfold leafB at g
  rw [if_neg (by omega), if_neg (by omega), if_neg (by omega), if_neg (by omega), if_neg (by omega), if_pos (by omega)] at g
  exact ⟨_, hB _ _ _, g⟩
 ·have g := leaf 9 _ h (by omega) rfl
  unfold leafB at g
  rw [if_neg (by omega), if_neg (by omega), if_neg (by omega), if_neg (by omega), if_neg (by omega), if_pos (by omega)] at g
  exact ⟨_, hB _ _ _, g⟩
 ·have g := leaf 10 _ h (by omega) rfl
  unfold leafB at g
  rw [if_neg (by omega), if_neg (by omega), if_neg (by omega), if_neg (by omega), if_neg (by omega), if_pos (by omega)] at g
  exact ⟨_, hB _ _ _, g⟩
 ·have g := leaf 11 _ h (by omega) rfl
  unfold leafB at g
  rw [if_neg (by omega), if_neg (by omega), if_neg (by omega), if_neg (by omega), if_pos rfl] at g
  exact ⟨_, hB _ _ _, g⟩
 ·refine hn (by omega) ?_
  unfold leafB
  rw [if_neg (by omega), if_neg (by omega), if_neg (by omega), if_neg (by omega), if_neg (by omega), if_neg (by omega)]
mutual
theorem rSize_ok : ∀ (x : Dt) (dp room : Int), x.ok → 0 ≤ dp → dp ≤ 100 → room ≤ 8192 → -8192 ≤ room → Fn Tryz.prog 102 [fzD x, fzI .i64 dp, fzI .i64 room] [] (fzI .i64 (x.siz dp room)) []
 | .mk k t n l xs a, dp, room, hok, h0, h1, h2, h3 => by
  unfold Dt.ok at hok
  obtain ⟨_, ht, _, hl4, hxl, hxs, _⟩ := hok
  have hxl : xs.length * 88 ≤ 140737488355328 := by omega
  have hall := fun (h64 : ¬ 64 < dp) => rSize_all xs (dp + 1) hxs (by omega) (by omega)
  unfold fzD
  simp only [Dt.row, List.map_cons, List.map_nil]
  refine ref02_size_fn _ _ _ _ _ _ _ _ ?_
  obtain ⟨R, hR, hRe⟩ : ∃ R : TV → List Ob → Prop, R (fzI .i64 ((Dt.mk k t n l xs a).siz dp room)) [] ∧ (fun r' h' => r' = (fzI .i64 ((Dt.mk k t n l xs a).siz dp room)) ∧ h' = []) = R := ⟨_, ⟨rfl, rfl⟩, rfl⟩
  rw [hRe]
  clear hRe
  unfold Dt.siz at hR
  have go : ∀ q : Int, (Dt.mk k t n l xs a).meas dp room = q → R (fzI .i64 (if q < 0 then 100000 else q)) [] := fun q hq => by rw [hq] at hR; exact hR
  by_cases h4 : 64 < dp
  ·have g := go (-1) (by unfold Dt.meas; rw [if_pos (.inl h4)])
   unfold ref02_size_H
   rw [dec_t, dec_f]
   exact ⟨fun _ => g, fun h => absurd h4 h⟩
  by_cases h5 : room < 1
  ·have g := go (-1) (by unfold Dt.meas; rw [if_pos (.inr h5)])
   unfold ref02_size_H
   rw [dec_t, dec_f, dec_t, dec_f]
   exact ⟨fun h => absurd h h4, fun _ => ⟨fun _ => g, fun h => absurd h5 h⟩⟩
  have hm := measL_le xs (dp + 1) room 1 (by omega) (by omega)
  have h6 : ¬ (64 < dp ∨ room < 1) := by omega
  refine rSize_head k t n l xs a dp room ht hl4 h4 h5 R (fun hk hp => ?_) (fun hk hp => ?_) (fun hk hp => ?_) (fun hk hp => ?_)
  ·by_cases hd : dotB k xs = true
   ·have g := go (Dt.measL xs (dp + 1) room 1) (by unfold Dt.meas; rw [if_neg h6, if_pos hk, hp, hd]; rfl)
    refine rSize_loop k t n l a xs hxl dp room h0 (by omega) h2 (fun x hx r hr hr' => hall h4 x hx r hr hr') R ?_ xs.length 0 1 (by omega) (by omega) (by omega) rfl
    refine cast (congrArg (fun z => R (fzI .i64 z) []) ?_) g
    by_cases h0 : Dt.measL xs (dp + 1) room 1 < 0
    ·rw [if_pos h0, if_neg (by omega)]
    ·rw [if_neg h0, if_pos ⟨hd, by omega⟩]
   ·have hd' : dotB k xs = false := by simpa using hd
    have g := go (-1) (by unfold Dt.meas; rw [if_neg h6, if_pos hk, hp, hd']; rfl)
    refine rSize_loop k t n l a xs hxl dp room h0 (by omega) h2 (fun x hx r hr hr' => hall h4 x hx r hr hr') R ?_ xs.length 0 1 (by omega) (by omega) (by omega) rfl
    rw [if_neg (fun hx => hd hx.1)]
    exact g
  ·exact go (-1) (by unfold Dt.meas; rw [if_neg h6, if_pos hk, hp]; rfl)
  ·exact go 1 (by unfold Dt.meas; rw [if_neg h6, if_neg hk, if_pos hp])
  ·exact go (-1) (by unfold Dt.meas; rw [if_neg h6, if_neg hk, if_neg (by rw [hp]; simp)])
theorem rSize_all : ∀ (xs : List Dt) (dp : Int), Dt.oks xs → 0 ≤ dp → dp ≤ 100 → ∀ x ∈ xs, ∀ room : Int, room ≤ 8192 → -8192 ≤ room → Fn Tryz.prog 102 [fzD x, fzI .i64 dp, fzI .i64 room] [] (fzI .i64 (x.siz dp room)) []
 | [], dp, hok, h0, h1 => fun x hx => by cases hx
 | y :: xs, dp, hok, h0, h1 => fun x hx room hr hr' => by
  unfold Dt.oks at hok
  have h2 := rSize_ok y dp room hok.1 h0 h1 hr hr'
  have h3 := rSize_all xs dp hok.2 h0 h1
  rcases List.mem_cons.1 hx with rfl | hx
  ·exact h2
  ·exact h3 x hx room hr hr'
end
theorem rSound_ok (x : Dt) (hx : x.ok) : Fn Tryz.prog 69 [fzD x] [] (fzB x.snd) [] := by
 have h := rSize_ok x 1 8192 hx (by omega) (by omega) (by omega) (by omega)
 have hm := meas_le x 1 8192
 have e : decide (x.siz 1 8192 ≤ 8192) = x.snd := by
  unfold Dt.siz Dt.snd
  rw [decide_eq_decide]
  split <;> omega
 rw [← e]
 clear e hm
 generalize x.siz 1 8192 = q at *
 obtain ⟨k, t, n, l, xs, a⟩ := x
 unfold fzD at h ⊢
 simp only [Dt.row, List.map_cons, List.map_nil] at h ⊢
 refine ref02_Sound_fn _ _ _ _ _ _ ?_
 unfold ref02_Sound_H
 exact ⟨_, h, rfl, rfl⟩
end
end Go.Proofs.YtljpbicmlcjpcaaGreatDoor.Ev
end
