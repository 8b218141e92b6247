/-
  Part of a claim: definitions and lemmas that its theorem leans on, packed by wip/tools/pack.py.
-/
import Derived.Test.YtejefchehdifhaaGreatDoorZJ3
set_option linter.unusedVariables false
set_option linter.unusedSimpArgs false
section
set_option linter.unusedVariables false
set_option maxRecDepth 100000
namespace Go.Proofs.YtejefchehdifhaaGreatDoor.Ev
open Go
def ref02_Sound_lv : List Nat → Keep := lvOf []
def ref02_Sound_H (R : TV → List Ob → Prop) (d0 : Int) (d1 : ByteArray) (d2 : Bool) (d3 : List (List FV)) (d4 : List (List FV)) (d5 : Int) : Prop :=
  (∃ n1 : Int, ((Fn Tryz.prog 60 [(TV.agg [(AV.fz (FV.int .i64 d0)), (AV.fz (FV.str d1)), (AV.fz (FV.bool d2)), (AV.fz (FV.sl 1 d3)), (AV.fz (FV.sl 6 d4)), (AV.fz (FV.int .i64 d5))]), (TV.one (AV.fz (FV.int .i64 1))), (TV.one (AV.fz (FV.int .i64 8192)))] [] (TV.one (AV.fz (FV.int .i64 n1))) []) ∧ (R (TV.one (AV.fz (FV.bool (decide (n1 ≤ 8192))))) [])))
theorem ref02_Sound_fn (d0 : Int) (d1 : ByteArray) (d2 : Bool) (d3 : List (List FV)) (d4 : List (List FV)) (d5 : Int) {r : TV} {h : List Ob} (H : ref02_Sound_H (fun r' h' => r' = r ∧ h' = h) d0 d1 d2 d3 d4 d5) : Fn Tryz.prog 22 [(TV.agg [(AV.fz (FV.int .i64 d0)), (AV.fz (FV.str d1)), (AV.fz (FV.bool d2)), (AV.fz (FV.sl 1 d3)), (AV.fz (FV.sl 6 d4)), (AV.fz (FV.int .i64 d5))])] [] r h :=
  Fn.by_tr (M := (modeOf [] [])) (lv := ref02_Sound_lv) (own := none) (F := Tryz.f22) (by kernel_rfl) (by kernel_rfl) (by first | decide | simp) (fun _ _ h => h) (by kernel_rfl) H
def ref02_size_lv : List Nat → Keep := lvOf [([0, 1, 0, 1, 1, 0, 1, 0, 1, 0, 1, 1, 1], ⟨910, 0, [], false, false⟩)]
def ref02_size_S0 (d0 : Int) (d1 : ByteArray) (d2 : Bool) (d3 : List (List FV)) (d4 : List (List FV)) (d5 : Int) (depth : Int) (room : Int) (n11 : Int) (i : Int) : St := (St.mk [TV.und, (TV.one (AV.fz (FV.int .i64 depth))), (TV.one (AV.fz (FV.int .i64 room))), (TV.one (AV.ptr 0 0 0 0)), TV.und, TV.und, TV.und, (TV.one (AV.fz (FV.int .i64 100000))), (TV.one (AV.fz (FV.int .i64 n11))), (TV.one (AV.fz (FV.int .i64 i))), TV.und, TV.und, TV.und, TV.und, TV.und, TV.und, TV.und, TV.und, TV.und, TV.und, TV.und, TV.und, TV.und, TV.und, TV.und, TV.und, TV.und, TV.und, TV.und, TV.und, TV.und, TV.und, TV.und, TV.und, TV.und, TV.und, TV.und, TV.und, TV.und, TV.und, TV.und, TV.und, TV.und, TV.und, TV.und, TV.und, TV.und, TV.und, TV.und, TV.und, TV.und, TV.und, TV.und, TV.und, TV.und, TV.und, TV.und, TV.und, TV.und, TV.und, TV.und, TV.und, TV.und, TV.und, TV.und, TV.und, TV.und, TV.und, TV.und, TV.und, TV.und, TV.und, TV.und, TV.und, TV.und, TV.und, TV.und, TV.und, TV.und, TV.und, TV.und, TV.und, TV.und, TV.und, TV.und, TV.und, TV.und, TV.und, TV.und, TV.und, TV.und, TV.und, TV.und, TV.und, TV.und, TV.und, TV.und, TV.und, TV.und, TV.und, TV.und, TV.und, TV.und, TV.und, TV.und, TV.und, TV.und, TV.und, TV.und, TV.und, TV.und, TV.und, TV.und, TV.und, TV.und, TV.und, TV.und, TV.und, TV.und, TV.und, TV.und, TV.und, TV.und, TV.und, TV.und, TV.und, TV.und, TV.und, TV.und, TV.und, TV.und, TV.und, TV.und, TV.und, TV.und, TV.und, TV.und, TV.und, TV.und, TV.und, TV.und, TV.und, TV.und, TV.und, TV.und, TV.und, TV.und, TV.und, TV.und, TV.und, TV.und, TV.und, TV.und, TV.und, TV.und, TV.und, TV.und, TV.und, TV.und, TV.und, TV.und, TV.und, TV.und, TV.und, TV.und, TV.und, TV.und, TV.und, TV.und, TV.und, TV.und, TV.und] [(Ob.g 39 [(AV.fz (FV.int .i64 d0)), (AV.fz (FV.str d1)), (AV.fz (FV.bool d2)), (AV.fz (FV.sl 1 d3)), (AV.fz (FV.sl 6 d4)), (AV.fz (FV.int .i64 d5))])])
def ref02_size_L0 (R : TV → List Ob → Prop) (d0 : Int) (d1 : ByteArray) (d2 : Bool) (d3 : List (List FV)) (d4 : List (List FV)) (d5 : Int) (depth : Int) (room : Int) (n11 : Int) (i : Int) : Prop := LoopAt Tryz.prog (modeOf [] []) ref02_size_lv Tryz.f60 none R [1, 1, 1, 0, 1, 0, 1, 0, 1, 1, 0, 1, 0] (ref02_size_S0 d0 d1 d2 d3 d4 d5 depth room n11 i)
def ref02_size_R0 (R : TV → List Ob → Prop) (d0 : Int) (d1 : ByteArray) (d2 : Bool) (d3 : List (List FV)) (d4 : List (List FV)) (d5 : Int) (depth : Int) (room : Int) (n11 : Int) (i : Int) : Prop :=
  ((((decide (i < (((List.length d4) : Nat) : Int))) = true) → (((0 : Int) ≤ i) ∧ (∃ n19 : Int, (∃ s7 : ByteArray, (∃ b24 : Bool, (∃ es16 : List (List FV), (∃ es17 : List (List FV), (∃ n20 : Int, (((d4)[(Int.toNat i)]? = (some [(FV.int .i64 n19), (FV.str s7), (FV.bool b24), (FV.sl 1 es16), (FV.sl 6 es17), (FV.int .i64 n20)])) ∧ (∃ n21 : Int, ((Fn Tryz.prog 60 [(TV.agg [(AV.fz (FV.int .i64 n19)), (AV.fz (FV.str s7)), (AV.fz (FV.bool b24)), (AV.fz (FV.sl 1 es16)), (AV.fz (FV.sl 6 es17)), (AV.fz (FV.int .i64 n20))]), (TV.one (AV.fz (FV.int .i64 (IntKind.wrap .i64 (depth + 1))))), (TV.one (AV.fz (FV.int .i64 (IntKind.wrap .i64 (room - n11)))))] [] (TV.one (AV.fz (FV.int .i64 n21))) []) ∧ ((((decide (room < (IntKind.wrap .i64 (n11 + n21)))) = true) → (R (TV.one (AV.fz (FV.int .i64 100000))) [])) ∧ (((decide (room < (IntKind.wrap .i64 (n11 + n21)))) = false) → (ref02_size_L0 R d0 d1 d2 d3 d4 d5 depth room (IntKind.wrap .i64 (n11 + n21)) (IntKind.wrap .i64 (i + 1)))))))))))))))) ∧ (((decide (i < (((List.length d4) : Nat) : Int))) = false) → ((((d0 == 2) = true) → ((((decide ((((List.length d4) : Nat) : Int) < 2)) = true) → (R (TV.one (AV.fz (FV.int .i64 100000))) [])) ∧ (((decide ((((List.length d4) : Nat) : Int) < 2)) = false) → (((0 : Int) ≤ (IntKind.wrap .i64 ((((List.length d4) : Nat) : Int) - 1))) ∧ (∃ n22 : Int, (∃ s8 : ByteArray, (∃ b25 : Bool, (∃ es18 : List (List FV), (∃ es19 : List (List FV), (∃ n23 : Int, (((d4)[(Int.toNat (IntKind.wrap .i64 ((((List.length d4) : Nat) : Int) - 1)))]? = (some [(FV.int .i64 n22), (FV.str s8), (FV.bool b25), (FV.sl 1 es18), (FV.sl 6 es19), (FV.int .i64 n23)])) ∧ ((((n22 == 1) = true) → (R (TV.one (AV.fz (FV.int .i64 100000))) [])) ∧ (((n22 == 1) = false) → (((0 : Int) ≤ (IntKind.wrap .i64 ((((List.length d4) : Nat) : Int) - 1))) ∧ (∃ n24 : Int, (∃ s9 : ByteArray, (∃ b26 : Bool, (∃ es20 : List (List FV), (∃ es21 : List (List FV), (∃ n25 : Int, (((d4)[(Int.toNat (IntKind.wrap .i64 ((((List.length d4) : Nat) : Int) - 1)))]? = (some [(FV.int .i64 n24), (FV.str s9), (FV.bool b26), (FV.sl 1 es20), (FV.sl 6 es21), (FV.int .i64 n25)])) ∧ ((((n24 == 2) = true) → (R (TV.one (AV.fz (FV.int .i64 100000))) [])) ∧ (((n24 == 2) = false) → (R (TV.one (AV.fz (FV.int .i64 n11))) [])))))))))))))))))))))))) ∧ (((d0 == 2) = false) → (R (TV.one (AV.fz (FV.int .i64 n11))) [])))))
theorem ref02_size_l0 {R : TV → List Ob → Prop} {d0 : Int} {d1 : ByteArray} {d2 : Bool} {d3 : List (List FV)} {d4 : List (List FV)} {d5 : Int} {depth : Int} {room : Int} {n11 : Int} {i : Int} (h : ref02_size_R0 R d0 d1 d2 d3 d4 d5 depth room n11 i) : ref02_size_L0 R d0 d1 d2 d3 d4 d5 depth room n11 i :=
  LoopAt.by_tr (by kernel_rfl) (by kernel_rfl) h
def ref02_size_H (R : TV → List Ob → Prop) (d0 : Int) (d1 : ByteArray) (d2 : Bool) (d3 : List (List FV)) (d4 : List (List FV)) (d5 : Int) (depth : Int) (room : Int) : Prop :=
  ((((decide ((64 : Int) < depth)) = true) → (R (TV.one (AV.fz (FV.int .i64 100000))) [])) ∧ (((decide ((64 : Int) < depth)) = false) → ((((decide (room < 1)) = true) → (R (TV.one (AV.fz (FV.int .i64 100000))) [])) ∧ (((decide (room < 1)) = false) → ((((d0 == 1) = true) → (∃ b24 : Bool, ((Fn Tryz.prog 95 [(TV.agg [(AV.fz (FV.int .i64 d0)), (AV.fz (FV.str d1)), (AV.fz (FV.bool d2)), (AV.fz (FV.sl 1 d3)), (AV.fz (FV.sl 6 d4)), (AV.fz (FV.int .i64 d5))]), (TV.one (AV.fz (FV.bool false))), (TV.one (AV.fz (FV.bool false))), (TV.one (AV.fz (FV.bool true)))] [] (TV.one (AV.fz (FV.bool b24))) []) ∧ ((((Bool.not b24) = true) → (R (TV.one (AV.fz (FV.int .i64 100000))) [])) ∧ (((Bool.not b24) = false) → (ref02_size_L0 R d0 d1 d2 d3 d4 d5 depth room 1 0)))))) ∧ (((d0 == 1) = false) → ((((d0 == 2) = true) → (∃ b25 : Bool, ((Fn Tryz.prog 95 [(TV.agg [(AV.fz (FV.int .i64 d0)), (AV.fz (FV.str d1)), (AV.fz (FV.bool d2)), (AV.fz (FV.sl 1 d3)), (AV.fz (FV.sl 6 d4)), (AV.fz (FV.int .i64 d5))]), (TV.one (AV.fz (FV.bool false))), (TV.one (AV.fz (FV.bool false))), (TV.one (AV.fz (FV.bool true)))] [] (TV.one (AV.fz (FV.bool b25))) []) ∧ ((((Bool.not b25) = true) → (R (TV.one (AV.fz (FV.int .i64 100000))) [])) ∧ (((Bool.not b25) = false) → (ref02_size_L0 R d0 d1 d2 d3 d4 d5 depth room 1 0)))))) ∧ (((d0 == 2) = false) → ((((d0 == 3) = true) → (∃ b26 : Bool, ((Fn Tryz.prog 95 [(TV.agg [(AV.fz (FV.int .i64 d0)), (AV.fz (FV.str d1)), (AV.fz (FV.bool d2)), (AV.fz (FV.sl 1 d3)), (AV.fz (FV.sl 6 d4)), (AV.fz (FV.int .i64 d5))]), (TV.one (AV.fz (FV.bool false))), (TV.one (AV.fz (FV.bool false))), (TV.one (AV.fz (FV.bool true)))] [] (TV.one (AV.fz (FV.bool b26))) []) ∧ ((((Bool.not b26) = true) → (R (TV.one (AV.fz (FV.int .i64 100000))) [])) ∧ (((Bool.not b26) = false) → (ref02_size_L0 R d0 d1 d2 d3 d4 d5 depth room 1 0)))))) ∧ (((d0 == 3) = false) → ((((d0 == 4) = true) → (∃ n19 : Int, (∃ s7 : ByteArray, (∃ b27 : Bool, (∃ es16 : List (List FV), (∃ es17 : List (List FV), (∃ n20 : Int, (∃ b28 : Bool, ((Fn Tryz.prog 16 [(TV.one (AV.fz (FV.str d1)))] [] (TV.tup [(true, [(AV.fz (FV.int .i64 n19)), (AV.fz (FV.str s7)), (AV.fz (FV.bool b27)), (AV.fz (FV.sl 1 es16)), (AV.fz (FV.sl 6 es17)), (AV.fz (FV.int .i64 n20))]), (false, [(AV.fz (FV.bool b28))])]) []) ∧ (((b28 = true) → ((((n19 == 4) = true) → (∃ b29 : Bool, ((Fn Tryz.prog 95 [(TV.agg [(AV.fz (FV.int .i64 d0)), (AV.fz (FV.str d1)), (AV.fz (FV.bool d2)), (AV.fz (FV.sl 1 d3)), (AV.fz (FV.sl 6 d4)), (AV.fz (FV.int .i64 d5))]), (TV.one (AV.fz (FV.bool true))), (TV.one (AV.fz (FV.bool false))), (TV.one (AV.fz (FV.bool false)))] [] (TV.one (AV.fz (FV.bool b29))) []) ∧ (((b29 = true) → (R (TV.one (AV.fz (FV.int .i64 1))) [])) ∧ ((b29 = false) → (R (TV.one (AV.fz (FV.int .i64 100000))) [])))))) ∧ (((n19 == 4) = false) → (R (TV.one (AV.fz (FV.int .i64 100000))) [])))) ∧ ((b28 = false) → (R (TV.one (AV.fz (FV.int .i64 100000))) [])))))))))))) ∧ (((d0 == 4) = false) → ((((d0 == 5) = true) → (∃ es18 : List (List FV), (∃ n21 : Int, ((Fn Tryz.prog 30 [(TV.one (AV.fz (FV.sl 1 (List.map (fun b31 => [(FV.int .u8 (((UInt8.toNat b31) : Nat) : Int))]) (Array.toList (ByteArray.data d1))))))] [] (TV.tup [(false, [(AV.fz (FV.sl 1 es18))]), (false, [(AV.fz (FV.int .i64 n21))])]) []) ∧ ((((decide (n21 < 0)) = true) → ((((decide ((((List.length es18) : Nat) : Int) ≤ 4096)) = true) → ((((decide ((((ByteArray.size d1) : Nat) : Int) ≤ 65536)) = true) → (∃ b32 : Bool, ((Fn Tryz.prog 95 [(TV.agg [(AV.fz (FV.int .i64 d0)), (AV.fz (FV.str d1)), (AV.fz (FV.bool d2)), (AV.fz (FV.sl 1 d3)), (AV.fz (FV.sl 6 d4)), (AV.fz (FV.int .i64 d5))]), (TV.one (AV.fz (FV.bool true))), (TV.one (AV.fz (FV.bool false))), (TV.one (AV.fz (FV.bool false)))] [] (TV.one (AV.fz (FV.bool b32))) []) ∧ (((b32 = true) → (R (TV.one (AV.fz (FV.int .i64 1))) [])) ∧ ((b32 = false) → (R (TV.one (AV.fz (FV.int .i64 100000))) [])))))) ∧ (((decide ((((ByteArray.size d1) : Nat) : Int) ≤ 65536)) = false) → (R (TV.one (AV.fz (FV.int .i64 100000))) [])))) ∧ (((decide ((((List.length es18) : Nat) : Int) ≤ 4096)) = false) → (R (TV.one (AV.fz (FV.int .i64 100000))) [])))) ∧ (((decide (n21 < 0)) = false) → (R (TV.one (AV.fz (FV.int .i64 100000))) []))))))) ∧ (((d0 == 5) = false) → ((((d0 == 6) = true) → (∃ es19 : List (List FV), (∃ n22 : Int, ((Fn Tryz.prog 30 [(TV.one (AV.fz (FV.sl 1 (List.map (fun b34 => [(FV.int .u8 (((UInt8.toNat b34) : Nat) : Int))]) (Array.toList (ByteArray.data d1))))))] [] (TV.tup [(false, [(AV.fz (FV.sl 1 es19))]), (false, [(AV.fz (FV.int .i64 n22))])]) []) ∧ ((((decide (n22 < 0)) = true) → (((((((List.length es19) : Nat) : Int) == 1) = true) → (∃ b35 : Bool, ((Fn Tryz.prog 95 [(TV.agg [(AV.fz (FV.int .i64 d0)), (AV.fz (FV.str d1)), (AV.fz (FV.bool d2)), (AV.fz (FV.sl 1 d3)), (AV.fz (FV.sl 6 d4)), (AV.fz (FV.int .i64 d5))]), (TV.one (AV.fz (FV.bool true))), (TV.one (AV.fz (FV.bool false))), (TV.one (AV.fz (FV.bool false)))] [] (TV.one (AV.fz (FV.bool b35))) []) ∧ (((b35 = true) → (R (TV.one (AV.fz (FV.int .i64 1))) [])) ∧ ((b35 = false) → (R (TV.one (AV.fz (FV.int .i64 100000))) [])))))) ∧ ((((((List.length es19) : Nat) : Int) == 1) = false) → (R (TV.one (AV.fz (FV.int .i64 100000))) [])))) ∧ (((decide (n22 < 0)) = false) → (R (TV.one (AV.fz (FV.int .i64 100000))) []))))))) ∧ (((d0 == 6) = false) → ((((d0 == 7) = true) → (∃ b36 : Bool, ((Fn Tryz.prog 96 [(TV.agg [(AV.fz (FV.bool d2)), (AV.fz (FV.sl 1 d3))])] [] (TV.one (AV.fz (FV.bool b36))) []) ∧ (((b36 = true) → (∃ b37 : Bool, ((Fn Tryz.prog 95 [(TV.agg [(AV.fz (FV.int .i64 d0)), (AV.fz (FV.str d1)), (AV.fz (FV.bool d2)), (AV.fz (FV.sl 1 d3)), (AV.fz (FV.sl 6 d4)), (AV.fz (FV.int .i64 d5))]), (TV.one (AV.fz (FV.bool false))), (TV.one (AV.fz (FV.bool true))), (TV.one (AV.fz (FV.bool false)))] [] (TV.one (AV.fz (FV.bool b37))) []) ∧ (((b37 = true) → (R (TV.one (AV.fz (FV.int .i64 1))) [])) ∧ ((b37 = false) → (R (TV.one (AV.fz (FV.int .i64 100000))) [])))))) ∧ ((b36 = false) → (R (TV.one (AV.fz (FV.int .i64 100000))) [])))))) ∧ (((d0 == 7) = false) → ((((d0 == 8) = true) → (∃ b38 : Bool, ((Fn Tryz.prog 95 [(TV.agg [(AV.fz (FV.int .i64 d0)), (AV.fz (FV.str d1)), (AV.fz (FV.bool d2)), (AV.fz (FV.sl 1 d3)), (AV.fz (FV.sl 6 d4)), (AV.fz (FV.int .i64 d5))]), (TV.one (AV.fz (FV.bool false))), (TV.one (AV.fz (FV.bool false))), (TV.one (AV.fz (FV.bool false)))] [] (TV.one (AV.fz (FV.bool b38))) []) ∧ (((b38 = true) → (R (TV.one (AV.fz (FV.int .i64 1))) [])) ∧ ((b38 = false) → (R (TV.one (AV.fz (FV.int .i64 100000))) [])))))) ∧ (((d0 == 8) = false) → ((((d0 == 9) = true) → (∃ b39 : Bool, ((Fn Tryz.prog 95 [(TV.agg [(AV.fz (FV.int .i64 d0)), (AV.fz (FV.str d1)), (AV.fz (FV.bool d2)), (AV.fz (FV.sl 1 d3)), (AV.fz (FV.sl 6 d4)), (AV.fz (FV.int .i64 d5))]), (TV.one (AV.fz (FV.bool false))), (TV.one (AV.fz (FV.bool false))), (TV.one (AV.fz (FV.bool false)))] [] (TV.one (AV.fz (FV.bool b39))) []) ∧ (((b39 = true) → (R (TV.one (AV.fz (FV.int .i64 1))) [])) ∧ ((b39 = false) → (R (TV.one (AV.fz (FV.int .i64 100000))) [])))))) ∧ (((d0 == 9) = false) → ((((d0 == 10) = true) → (∃ b40 : Bool, ((Fn Tryz.prog 95 [(TV.agg [(AV.fz (FV.int .i64 d0)), (AV.fz (FV.str d1)), (AV.fz (FV.bool d2)), (AV.fz (FV.sl 1 d3)), (AV.fz (FV.sl 6 d4)), (AV.fz (FV.int .i64 d5))]), (TV.one (AV.fz (FV.bool false))), (TV.one (AV.fz (FV.bool false))), (TV.one (AV.fz (FV.bool false)))] [] (TV.one (AV.fz (FV.bool b40))) []) ∧ (((b40 = true) → (R (TV.one (AV.fz (FV.int .i64 1))) [])) ∧ ((b40 = false) → (R (TV.one (AV.fz (FV.int .i64 100000))) [])))))) ∧ (((d0 == 10) = false) → ((((d0 == 11) = true) → (∃ b41 : Bool, ((Fn Tryz.prog 95 [(TV.agg [(AV.fz (FV.int .i64 d0)), (AV.fz (FV.str d1)), (AV.fz (FV.bool d2)), (AV.fz (FV.sl 1 d3)), (AV.fz (FV.sl 6 d4)), (AV.fz (FV.int .i64 d5))]), (TV.one (AV.fz (FV.bool true))), (TV.one (AV.fz (FV.bool false))), (TV.one (AV.fz (FV.bool false)))] [] (TV.one (AV.fz (FV.bool b41))) []) ∧ (((b41 = true) → (R (TV.one (AV.fz (FV.int .i64 1))) [])) ∧ ((b41 = false) → (R (TV.one (AV.fz (FV.int .i64 100000))) [])))))) ∧ (((d0 == 11) = false) → (R (TV.one (AV.fz (FV.int .i64 100000))) [])))))))))))))))))))))))))))
theorem ref02_size_fn (d0 : Int) (d1 : ByteArray) (d2 : Bool) (d3 : List (List FV)) (d4 : List (List FV)) (d5 : Int) (depth : Int) (room : Int) {r : TV} {h : List Ob} (H : ref02_size_H (fun r' h' => r' = r ∧ h' = h) d0 d1 d2 d3 d4 d5 depth room) : Fn Tryz.prog 60 [(TV.agg [(AV.fz (FV.int .i64 d0)), (AV.fz (FV.str d1)), (AV.fz (FV.bool d2)), (AV.fz (FV.sl 1 d3)), (AV.fz (FV.sl 6 d4)), (AV.fz (FV.int .i64 d5))]), (TV.one (AV.fz (FV.int .i64 depth))), (TV.one (AV.fz (FV.int .i64 room)))] [] r h :=
  Fn.by_tr (M := (modeOf [] [])) (lv := ref02_size_lv) (own := none) (F := Tryz.f60) (by kernel_rfl) (by kernel_rfl) (by first | decide | simp) (fun _ _ h => h) (by kernel_rfl) H
def ref02_bare_lv : List Nat → Keep := lvOf []
def ref02_bare_H (R : TV → List Ob → Prop) (d0 : Int) (d1 : ByteArray) (d2 : Bool) (d3 : List (List FV)) (d4 : List (List FV)) (d5 : Int) (text : Bool) (number : Bool) (list : Bool) : Prop :=
  (((text = true) → (((number = true) → (((list = true) → (R (TV.one (AV.fz (FV.bool true))) [])) ∧ ((list = false) → (R (TV.one (AV.fz (FV.bool ((((List.length d4) : Nat) : Int) == 0)))) [])))) ∧ ((number = false) → ((((Bool.not d2) = true) → (((((((List.length d3) : Nat) : Int) == 0) = true) → (((list = true) → (R (TV.one (AV.fz (FV.bool true))) [])) ∧ ((list = false) → (R (TV.one (AV.fz (FV.bool ((((List.length d4) : Nat) : Int) == 0)))) [])))) ∧ ((((((List.length d3) : Nat) : Int) == 0) = false) → (R (TV.one (AV.fz (FV.bool false))) [])))) ∧ (((Bool.not d2) = false) → (R (TV.one (AV.fz (FV.bool false))) [])))))) ∧ ((text = false) → (((((ByteArray.toList d1) == (ByteArray.toList (ByteArray.mk #[]))) = true) → (((number = true) → (((list = true) → (R (TV.one (AV.fz (FV.bool true))) [])) ∧ ((list = false) → (R (TV.one (AV.fz (FV.bool ((((List.length d4) : Nat) : Int) == 0)))) [])))) ∧ ((number = false) → ((((Bool.not d2) = true) → (((((((List.length d3) : Nat) : Int) == 0) = true) → (((list = true) → (R (TV.one (AV.fz (FV.bool true))) [])) ∧ ((list = false) → (R (TV.one (AV.fz (FV.bool ((((List.length d4) : Nat) : Int) == 0)))) [])))) ∧ ((((((List.length d3) : Nat) : Int) == 0) = false) → (R (TV.one (AV.fz (FV.bool false))) [])))) ∧ (((Bool.not d2) = false) → (R (TV.one (AV.fz (FV.bool false))) [])))))) ∧ ((((ByteArray.toList d1) == (ByteArray.toList (ByteArray.mk #[]))) = false) → (R (TV.one (AV.fz (FV.bool false))) [])))))
theorem ref02_bare_fn (d0 : Int) (d1 : ByteArray) (d2 : Bool) (d3 : List (List FV)) (d4 : List (List FV)) (d5 : Int) (text : Bool) (number : Bool) (list : Bool) {r : TV} {h : List Ob} (H : ref02_bare_H (fun r' h' => r' = r ∧ h' = h) d0 d1 d2 d3 d4 d5 text number list) : Fn Tryz.prog 95 [(TV.agg [(AV.fz (FV.int .i64 d0)), (AV.fz (FV.str d1)), (AV.fz (FV.bool d2)), (AV.fz (FV.sl 1 d3)), (AV.fz (FV.sl 6 d4)), (AV.fz (FV.int .i64 d5))]), (TV.one (AV.fz (FV.bool text))), (TV.one (AV.fz (FV.bool number))), (TV.one (AV.fz (FV.bool list)))] [] r h :=
  Fn.by_tr (M := (modeOf [] [])) (lv := ref02_bare_lv) (own := none) (F := Tryz.f95) (by kernel_rfl) (by kernel_rfl) (by first | decide | simp) (fun _ _ h => h) (by kernel_rfl) H
def ref02_Atom_lv : List Nat → Keep := lvOf [([0, 1, 0, 1, 1, 1, 1, 1, 1, 1, 1], ⟨325, 0, [], false, false⟩)]
def ref02_Atom_S0 (s : ByteArray) (es1 : List (List FV)) (i : Int) : St := (St.mk [(TV.one (AV.fz (FV.str s))), TV.und, (TV.one (AV.ptr 0 0 0 0)), TV.und, TV.und, TV.und, (TV.one (AV.fz (FV.sl 1 es1))), TV.und, (TV.one (AV.fz (FV.int .i64 i))), TV.und, TV.und, TV.und, TV.und, TV.und, TV.und, TV.und, TV.und, TV.und, TV.und, TV.und, TV.und, TV.und, TV.und, TV.und, TV.und, TV.und, TV.und, TV.und, TV.und, TV.und, TV.und, TV.und, TV.und, TV.und, TV.und, TV.und, TV.und, TV.und, TV.und, TV.und, TV.und, TV.und, TV.und, TV.und, TV.und, TV.und, TV.und, TV.und, TV.und, TV.und, TV.und, TV.und, TV.und, TV.und, TV.und, TV.und, TV.und, TV.und, TV.und, TV.und, TV.und, TV.und, TV.und, TV.und, TV.und, TV.und, TV.und, TV.und, TV.und, TV.und, TV.und, TV.und, TV.und, TV.und, TV.und, TV.und, TV.und, TV.und, TV.und, TV.und, TV.und, TV.und, TV.und, TV.und, TV.und, TV.und, TV.und, TV.und, TV.und, TV.und] [(Ob.g 39 [(AV.fz (FV.int .i64 0)), (AV.fz (FV.str (ByteArray.mk #[]))), (AV.fz (FV.bool false)), (AV.ofl 1 1), (AV.ofl 6 2), (AV.fz (FV.int .i64 0))]), (Ob.f 0 1 ([] : List (List FV))), (Ob.f 0 6 ([] : List (List FV)))])
def ref02_Atom_L0 (R : TV → List Ob → Prop) (s : ByteArray) (es1 : List (List FV)) (i : Int) : Prop := LoopAt Tryz.prog (modeOf [] []) ref02_Atom_lv Tryz.f16 none R [1, 1, 1, 1, 1, 1, 1, 1, 0, 1, 0] (ref02_Atom_S0 s es1 i)
def ref02_Atom_R0 (R : TV → List Ob → Prop) (s : ByteArray) (es1 : List (List FV)) (i : Int) : Prop :=
  ((((decide (i < (((List.length es1) : Nat) : Int))) = true) → (((0 : Int) ≤ i) ∧ (∃ n5 : Int, (((es1)[(Int.toNat i)]? = (some [(FV.int .i64 n5)])) ∧ (∃ b13 : Bool, ((Fn Tryz.prog 55 [(TV.one (AV.fz (FV.int .i64 n5)))] [] (TV.one (AV.fz (FV.bool b13))) []) ∧ (((b13 = true) → (R (TV.tup [(true, [(AV.fz (FV.int .i64 0)), (AV.fz (FV.str (ByteArray.mk #[]))), (AV.fz (FV.bool false)), (AV.fz (FV.sl 1 ([] : List (List FV)))), (AV.fz (FV.sl 6 ([] : List (List FV)))), (AV.fz (FV.int .i64 0))]), (false, [(AV.fz (FV.bool false))])]) [])) ∧ ((b13 = false) → (ref02_Atom_L0 R s es1 (IntKind.wrap .i64 (i + 1))))))))))) ∧ (((decide (i < (((List.length es1) : Nat) : Int))) = false) → (R (TV.tup [(true, [(AV.fz (FV.int .i64 4)), (AV.fz (FV.str s)), (AV.fz (FV.bool false)), (AV.fz (FV.sl 1 ([] : List (List FV)))), (AV.fz (FV.sl 6 ([] : List (List FV)))), (AV.fz (FV.int .i64 0))]), (false, [(AV.fz (FV.bool true))])]) [])))
theorem ref02_Atom_l0 {R : TV → List Ob → Prop} {s : ByteArray} {es1 : List (List FV)} {i : Int} (h : ref02_Atom_R0 R s es1 i) : ref02_Atom_L0 R s es1 i :=
  LoopAt.by_tr (by kernel_rfl) (by kernel_rfl) h
def ref02_Atom_H (R : TV → List Ob → Prop) (s : ByteArray) : Prop :=
  (((((ByteArray.toList s) == (ByteArray.toList (ByteArray.mk #[35, 116]))) = true) → (R (TV.tup [(true, [(AV.fz (FV.int .i64 8)), (AV.fz (FV.str (ByteArray.mk #[]))), (AV.fz (FV.bool false)), (AV.fz (FV.sl 1 ([] : List (List FV)))), (AV.fz (FV.sl 6 ([] : List (List FV)))), (AV.fz (FV.int .i64 0))]), (false, [(AV.fz (FV.bool true))])]) [])) ∧ ((((ByteArray.toList s) == (ByteArray.toList (ByteArray.mk #[35, 116]))) = false) → (((((ByteArray.toList s) == (ByteArray.toList (ByteArray.mk #[35, 116, 114, 117, 101]))) = true) → (R (TV.tup [(true, [(AV.fz (FV.int .i64 8)), (AV.fz (FV.str (ByteArray.mk #[]))), (AV.fz (FV.bool false)), (AV.fz (FV.sl 1 ([] : List (List FV)))), (AV.fz (FV.sl 6 ([] : List (List FV)))), (AV.fz (FV.int .i64 0))]), (false, [(AV.fz (FV.bool true))])]) [])) ∧ ((((ByteArray.toList s) == (ByteArray.toList (ByteArray.mk #[35, 116, 114, 117, 101]))) = false) → (((((ByteArray.toList s) == (ByteArray.toList (ByteArray.mk #[35, 102]))) = true) → (R (TV.tup [(true, [(AV.fz (FV.int .i64 9)), (AV.fz (FV.str (ByteArray.mk #[]))), (AV.fz (FV.bool false)), (AV.fz (FV.sl 1 ([] : List (List FV)))), (AV.fz (FV.sl 6 ([] : List (List FV)))), (AV.fz (FV.int .i64 0))]), (false, [(AV.fz (FV.bool true))])]) [])) ∧ ((((ByteArray.toList s) == (ByteArray.toList (ByteArray.mk #[35, 102]))) = false) → (((((ByteArray.toList s) == (ByteArray.toList (ByteArray.mk #[35, 102, 97, 108, 115, 101]))) = true) → (R (TV.tup [(true, [(AV.fz (FV.int .i64 9)), (AV.fz (FV.str (ByteArray.mk #[]))), (AV.fz (FV.bool false)), (AV.fz (FV.sl 1 ([] : List (List FV)))), (AV.fz (FV.sl 6 ([] : List (List FV)))), (AV.fz (FV.int .i64 0))]), (false, [(AV.fz (FV.bool true))])]) [])) ∧ ((((ByteArray.toList s) == (ByteArray.toList (ByteArray.mk #[35, 102, 97, 108, 115, 101]))) = false) → (∃ b13 : Bool, (∃ es4 : List (List FV), (∃ b14 : Bool, ((Fn Tryz.prog 53 [(TV.one (AV.fz (FV.str s)))] [] (TV.tup [(true, [(AV.fz (FV.bool b13)), (AV.fz (FV.sl 1 es4))]), (false, [(AV.fz (FV.bool b14))])]) []) ∧ (((b14 = true) → (R (TV.tup [(true, [(AV.fz (FV.int .i64 7)), (AV.fz (FV.str (ByteArray.mk #[]))), (AV.fz (FV.bool b13)), (AV.fz (FV.sl 1 es4)), (AV.fz (FV.sl 6 ([] : List (List FV)))), (AV.fz (FV.int .i64 0))]), (false, [(AV.fz (FV.bool true))])]) [])) ∧ ((b14 = false) → ((((decide ((((ByteArray.size s) : Nat) : Int) < 1)) = true) → (R (TV.tup [(true, [(AV.fz (FV.int .i64 0)), (AV.fz (FV.str (ByteArray.mk #[]))), (AV.fz (FV.bool false)), (AV.fz (FV.sl 1 ([] : List (List FV)))), (AV.fz (FV.sl 6 ([] : List (List FV)))), (AV.fz (FV.int .i64 0))]), (false, [(AV.fz (FV.bool false))])]) [])) ∧ (((decide ((((ByteArray.size s) : Nat) : Int) < 1)) = false) → ((((decide ((64 : Int) < (((ByteArray.size s) : Nat) : Int))) = true) → (R (TV.tup [(true, [(AV.fz (FV.int .i64 0)), (AV.fz (FV.str (ByteArray.mk #[]))), (AV.fz (FV.bool false)), (AV.fz (FV.sl 1 ([] : List (List FV)))), (AV.fz (FV.sl 6 ([] : List (List FV)))), (AV.fz (FV.int .i64 0))]), (false, [(AV.fz (FV.bool false))])]) [])) ∧ (((decide ((64 : Int) < (((ByteArray.size s) : Nat) : Int))) = false) → (((((ByteArray.toList s) == (ByteArray.toList (ByteArray.mk #[46]))) = true) → (R (TV.tup [(true, [(AV.fz (FV.int .i64 0)), (AV.fz (FV.str (ByteArray.mk #[]))), (AV.fz (FV.bool false)), (AV.fz (FV.sl 1 ([] : List (List FV)))), (AV.fz (FV.sl 6 ([] : List (List FV)))), (AV.fz (FV.int .i64 0))]), (false, [(AV.fz (FV.bool false))])]) [])) ∧ ((((ByteArray.toList s) == (ByteArray.toList (ByteArray.mk #[46]))) = false) → (((0 : Int) ≤ 0) ∧ (∃ c3 : UInt8, ((((ByteArray.data s))[(Int.toNat 0)]? = (some c3)) ∧ (((((((UInt8.toNat c3) : Nat) : Int) == 35) = true) → (R (TV.tup [(true, [(AV.fz (FV.int .i64 0)), (AV.fz (FV.str (ByteArray.mk #[]))), (AV.fz (FV.bool false)), (AV.fz (FV.sl 1 ([] : List (List FV)))), (AV.fz (FV.sl 6 ([] : List (List FV)))), (AV.fz (FV.int .i64 0))]), (false, [(AV.fz (FV.bool false))])]) [])) ∧ ((((((UInt8.toNat c3) : Nat) : Int) == 35) = false) → (∃ b15 : Bool, ((Fn Tryz.prog 54 [(TV.one (AV.fz (FV.str s))), (TV.one (AV.fz (FV.int .i64 0)))] [] (TV.one (AV.fz (FV.bool b15))) []) ∧ (((b15 = true) → (R (TV.tup [(true, [(AV.fz (FV.int .i64 0)), (AV.fz (FV.str (ByteArray.mk #[]))), (AV.fz (FV.bool false)), (AV.fz (FV.sl 1 ([] : List (List FV)))), (AV.fz (FV.sl 6 ([] : List (List FV)))), (AV.fz (FV.int .i64 0))]), (false, [(AV.fz (FV.bool false))])]) [])) ∧ ((b15 = false) → (((0 : Int) ≤ 0) ∧ (∃ c4 : UInt8, ((((ByteArray.data s))[(Int.toNat 0)]? = (some c4)) ∧ (((((((UInt8.toNat c4) : Nat) : Int) == 43) = true) → (∃ b16 : Bool, ((Fn Tryz.prog 54 [(TV.one (AV.fz (FV.str s))), (TV.one (AV.fz (FV.int .i64 1)))] [] (TV.one (AV.fz (FV.bool b16))) []) ∧ (((b16 = true) → (R (TV.tup [(true, [(AV.fz (FV.int .i64 0)), (AV.fz (FV.str (ByteArray.mk #[]))), (AV.fz (FV.bool false)), (AV.fz (FV.sl 1 ([] : List (List FV)))), (AV.fz (FV.sl 6 ([] : List (List FV)))), (AV.fz (FV.int .i64 0))]), (false, [(AV.fz (FV.bool false))])]) [])) ∧ ((b16 = false) → (∃ es5 : List (List FV), (∃ n5 : Int, ((Fn Tryz.prog 30 [(TV.one (AV.fz (FV.sl 1 (List.map (fun b18 => [(FV.int .u8 (((UInt8.toNat b18) : Nat) : Int))]) (Array.toList (ByteArray.data s))))))] [] (TV.tup [(false, [(AV.fz (FV.sl 1 es5))]), (false, [(AV.fz (FV.int .i64 n5))])]) []) ∧ ((((decide ((0 : Int) ≤ n5)) = true) → (R (TV.tup [(true, [(AV.fz (FV.int .i64 0)), (AV.fz (FV.str (ByteArray.mk #[]))), (AV.fz (FV.bool false)), (AV.fz (FV.sl 1 ([] : List (List FV)))), (AV.fz (FV.sl 6 ([] : List (List FV)))), (AV.fz (FV.int .i64 0))]), (false, [(AV.fz (FV.bool false))])]) [])) ∧ (((decide ((0 : Int) ≤ n5)) = false) → (ref02_Atom_L0 R s es5 0))))))))))) ∧ ((((((UInt8.toNat c4) : Nat) : Int) == 43) = false) → (((0 : Int) ≤ 0) ∧ (∃ c5 : UInt8, ((((ByteArray.data s))[(Int.toNat 0)]? = (some c5)) ∧ (((((((UInt8.toNat c5) : Nat) : Int) == 45) = true) → (∃ b19 : Bool, ((Fn Tryz.prog 54 [(TV.one (AV.fz (FV.str s))), (TV.one (AV.fz (FV.int .i64 1)))] [] (TV.one (AV.fz (FV.bool b19))) []) ∧ (((b19 = true) → (R (TV.tup [(true, [(AV.fz (FV.int .i64 0)), (AV.fz (FV.str (ByteArray.mk #[]))), (AV.fz (FV.bool false)), (AV.fz (FV.sl 1 ([] : List (List FV)))), (AV.fz (FV.sl 6 ([] : List (List FV)))), (AV.fz (FV.int .i64 0))]), (false, [(AV.fz (FV.bool false))])]) [])) ∧ ((b19 = false) → (∃ es6 : List (List FV), (∃ n6 : Int, ((Fn Tryz.prog 30 [(TV.one (AV.fz (FV.sl 1 (List.map (fun b21 => [(FV.int .u8 (((UInt8.toNat b21) : Nat) : Int))]) (Array.toList (ByteArray.data s))))))] [] (TV.tup [(false, [(AV.fz (FV.sl 1 es6))]), (false, [(AV.fz (FV.int .i64 n6))])]) []) ∧ ((((decide ((0 : Int) ≤ n6)) = true) → (R (TV.tup [(true, [(AV.fz (FV.int .i64 0)), (AV.fz (FV.str (ByteArray.mk #[]))), (AV.fz (FV.bool false)), (AV.fz (FV.sl 1 ([] : List (List FV)))), (AV.fz (FV.sl 6 ([] : List (List FV)))), (AV.fz (FV.int .i64 0))]), (false, [(AV.fz (FV.bool false))])]) [])) ∧ (((decide ((0 : Int) ≤ n6)) = false) → (ref02_Atom_L0 R s es6 0))))))))))) ∧ ((((((UInt8.toNat c5) : Nat) : Int) == 45) = false) → (∃ es7 : List (List FV), (∃ n7 : Int, ((Fn Tryz.prog 30 [(TV.one (AV.fz (FV.sl 1 (List.map (fun b23 => [(FV.int .u8 (((UInt8.toNat b23) : Nat) : Int))]) (Array.toList (ByteArray.data s))))))] [] (TV.tup [(false, [(AV.fz (FV.sl 1 es7))]), (false, [(AV.fz (FV.int .i64 n7))])]) []) ∧ ((((decide ((0 : Int) ≤ n7)) = true) → (R (TV.tup [(true, [(AV.fz (FV.int .i64 0)), (AV.fz (FV.str (ByteArray.mk #[]))), (AV.fz (FV.bool false)), (AV.fz (FV.sl 1 ([] : List (List FV)))), (AV.fz (FV.sl 6 ([] : List (List FV)))), (AV.fz (FV.int .i64 0))]), (false, [(AV.fz (FV.bool false))])]) [])) ∧ (((decide ((0 : Int) ≤ n7)) = false) → (ref02_Atom_L0 R s es7 0)))))))))))))))))))))))))))))))))))))))))))))
theorem ref02_Atom_fn (s : ByteArray) {r : TV} {h : List Ob} (H : ref02_Atom_H (fun r' h' => r' = r ∧ h' = h) s) : Fn Tryz.prog 16 [(TV.one (AV.fz (FV.str s)))] [] r h :=
  Fn.by_tr (M := (modeOf [] [])) (lv := ref02_Atom_lv) (own := none) (F := Tryz.f16) (by kernel_rfl) (by kernel_rfl) (by first | decide | simp) (fun _ _ h => h) (by kernel_rfl) H
def ref02_Chars_lv : List Nat → Keep := lvOf [([0, 0, 1, 1, 1], ⟨49, 0, [], false, false⟩)]
def ref02_Chars_S0 (b : List (List FV)) (at_ : Int) (o : List (List FV)) : St := (St.mk [(TV.one (AV.fz (FV.sl 1 b))), TV.und, TV.und, TV.und, (TV.one (AV.ofl 1 0)), (TV.one (AV.fz (FV.int .i64 at_))), TV.und, TV.und, TV.und, TV.und, TV.und, TV.und, TV.und, TV.und, TV.und, TV.und, TV.und, TV.und, TV.und, TV.und, TV.und, TV.und, TV.und, TV.und, TV.und, TV.und, TV.und, TV.und, TV.und] [(Ob.f 0 1 o)])
def ref02_Chars_L0 (R : TV → List Ob → Prop) (b : List (List FV)) (at_ : Int) (o : List (List FV)) : Prop := LoopAt Tryz.prog (modeOf [] []) ref02_Chars_lv Tryz.f30 none R [1, 1, 1, 0, 0] (ref02_Chars_S0 b at_ o)
def ref02_Chars_R0 (R : TV → List Ob → Prop) (b : List (List FV)) (at_ : Int) (o : List (List FV)) : Prop :=
  ((((decide (at_ < (((List.length b) : Nat) : Int))) = true) → (∃ n4 : Int, (∃ n5 : Int, ((Fn Tryz.prog 67 [(TV.one (AV.fz (FV.sl 1 b))), (TV.one (AV.fz (FV.int .i64 at_)))] [] (TV.tup [(false, [(AV.fz (FV.int .i64 n4))]), (false, [(AV.fz (FV.int .i64 n5))])]) []) ∧ ((((n5 == 0) = true) → (R (TV.tup [(false, [(AV.fz (FV.sl 1 ([] : List (List FV))))]), (false, [(AV.fz (FV.int .i64 at_))])]) [])) ∧ (((n5 == 0) = false) → (((((List.length o) + (List.length [[(FV.int .i64 n4)]])) * 8) ≤ 220000000000000) ∧ (ref02_Chars_L0 R b (IntKind.wrap .i64 (at_ + n5)) (o ++ [[(FV.int .i64 n4)]]))))))))) ∧ (((decide (at_ < (((List.length b) : Nat) : Int))) = false) → (R (TV.tup [(false, [(AV.fz (FV.sl 1 o))]), (false, [(AV.fz (FV.int .i64 (-1)))])]) [])))
theorem ref02_Chars_l0 {R : TV → List Ob → Prop} {b : List (List FV)} {at_ : Int} {o : List (List FV)} (h : ref02_Chars_R0 R b at_ o) : ref02_Chars_L0 R b at_ o :=
  LoopAt.by_tr (by kernel_rfl) (by kernel_rfl) h
def ref02_Chars_H (R : TV → List Ob → Prop) (b : List (List FV)) : Prop :=
  (ref02_Chars_L0 R b 0 ([] : List (List FV)))
theorem ref02_Chars_fn (b : List (List FV)) {r : TV} {h : List Ob} (H : ref02_Chars_H (fun r' h' => r' = r ∧ h' = h) b) : Fn Tryz.prog 30 [(TV.one (AV.fz (FV.sl 1 b)))] [] r h :=
  Fn.by_tr (M := (modeOf [] [])) (lv := ref02_Chars_lv) (own := none) (F := Tryz.f30) (by kernel_rfl) (by kernel_rfl) (by first | decide | simp) (fun _ _ h => h) (by kernel_rfl) H
def ref02_digit_lv : List Nat → Keep := lvOf []
def ref02_digit_H (R : TV → List Ob → Prop) (s : ByteArray) (i : Int) : Prop :=
  ((((decide (i < (((ByteArray.size s) : Nat) : Int))) = true) → (((0 : Int) ≤ i) ∧ (∃ c2 : UInt8, ((((ByteArray.data s))[(Int.toNat i)]? = (some c2)) ∧ ((((decide ((48 : Int) ≤ (((UInt8.toNat c2) : Nat) : Int))) = true) → (((0 : Int) ≤ i) ∧ (∃ c3 : UInt8, ((((ByteArray.data s))[(Int.toNat i)]? = (some c3)) ∧ (R (TV.one (AV.fz (FV.bool (decide ((((UInt8.toNat c3) : Nat) : Int) ≤ 57))))) []))))) ∧ (((decide ((48 : Int) ≤ (((UInt8.toNat c2) : Nat) : Int))) = false) → (R (TV.one (AV.fz (FV.bool false))) []))))))) ∧ (((decide (i < (((ByteArray.size s) : Nat) : Int))) = false) → (R (TV.one (AV.fz (FV.bool false))) [])))
theorem ref02_digit_fn (s : ByteArray) (i : Int) {r : TV} {h : List Ob} (H : ref02_digit_H (fun r' h' => r' = r ∧ h' = h) s i) : Fn Tryz.prog 54 [(TV.one (AV.fz (FV.str s))), (TV.one (AV.fz (FV.int .i64 i)))] [] r h :=
  Fn.by_tr (M := (modeOf [] [])) (lv := ref02_digit_lv) (own := none) (F := Tryz.f54) (by kernel_rfl) (by kernel_rfl) (by first | decide | simp) (fun _ _ h => h) (by kernel_rfl) H
def ref02_Ends_lv : List Nat → Keep := lvOf []
def ref02_Ends_H (R : TV → List Ob → Prop) (c : Int) : Prop :=
  (∃ b1 : Bool, ((Fn Tryz.prog 39 [(TV.one (AV.fz (FV.int .i64 c)))] [] (TV.one (AV.fz (FV.bool b1))) []) ∧ (((b1 = true) → (R (TV.one (AV.fz (FV.bool true))) [])) ∧ ((b1 = false) → ((((c == 40) = true) → (R (TV.one (AV.fz (FV.bool true))) [])) ∧ (((c == 40) = false) → ((((c == 41) = true) → (R (TV.one (AV.fz (FV.bool true))) [])) ∧ (((c == 41) = false) → ((((c == 59) = true) → (R (TV.one (AV.fz (FV.bool true))) [])) ∧ (((c == 59) = false) → ((((c == 34) = true) → (R (TV.one (AV.fz (FV.bool true))) [])) ∧ (((c == 34) = false) → ((((c == 39) = true) → (R (TV.one (AV.fz (FV.bool true))) [])) ∧ (((c == 39) = false) → ((((c == 96) = true) → (R (TV.one (AV.fz (FV.bool true))) [])) ∧ (((c == 96) = false) → (R (TV.one (AV.fz (FV.bool (c == 44)))) [])))))))))))))))))
theorem ref02_Ends_fn (c : Int) {r : TV} {h : List Ob} (H : ref02_Ends_H (fun r' h' => r' = r ∧ h' = h) c) : Fn Tryz.prog 55 [(TV.one (AV.fz (FV.int .i64 c)))] [] r h :=
  Fn.by_tr (M := (modeOf [] [])) (lv := ref02_Ends_lv) (own := none) (F := Tryz.f55) (by kernel_rfl) (by kernel_rfl) (by first | decide | simp) (fun _ _ h => h) (by kernel_rfl) H
def ref02_one_lv : List Nat → Keep := lvOf [([0, 1, 0, 1, 1, 1, 1, 1], ⟨451, 0, [], false, false⟩)]
def ref02_one_S0 (b : List (List FV)) (at_ : Int) (c : Int) (n2 : Int) (i : Int) : St := (St.mk [(TV.one (AV.fz (FV.sl 1 b))), (TV.one (AV.fz (FV.int .i64 at_))), TV.und, TV.und, TV.und, TV.und, (TV.one (AV.fz (FV.int .i64 c))), (TV.one (AV.fz (FV.int .i64 n2))), (TV.one (AV.fz (FV.int .i64 i))), TV.und, TV.und, TV.und, TV.und, TV.und, TV.und, TV.und, TV.und, TV.und, TV.und, TV.und, TV.und, TV.und, TV.und, TV.und, TV.und, TV.und, TV.und, TV.und, TV.und, TV.und, TV.und, TV.und, TV.und, TV.und, TV.und, TV.und, TV.und, TV.und, TV.und, TV.und, TV.und, TV.und, TV.und, TV.und, TV.und, TV.und, TV.und, TV.und, TV.und, TV.und, TV.und, TV.und, TV.und, TV.und, TV.und, TV.und, TV.und, TV.und, TV.und, TV.und, TV.und, TV.und, TV.und, TV.und, TV.und, TV.und, TV.und, TV.und, TV.und, TV.und, TV.und, TV.und, TV.und, TV.und, TV.und, TV.und, TV.und, TV.und, TV.und, TV.und, TV.und, TV.und, TV.und, TV.und, TV.und, TV.und] [])
def ref02_one_L0 (R : TV → List Ob → Prop) (b : List (List FV)) (at_ : Int) (c : Int) (n2 : Int) (i : Int) : Prop := LoopAt Tryz.prog (modeOf [] []) ref02_one_lv Tryz.f67 none R [1, 1, 1, 1, 1, 0, 1, 0] (ref02_one_S0 b at_ c n2 i)
def ref02_one_R0 (R : TV → List Ob → Prop) (b : List (List FV)) (at_ : Int) (c : Int) (n2 : Int) (i : Int) : Prop :=
  ((((decide (i < n2)) = true) → (((0 : Int) ≤ (IntKind.wrap .i64 (at_ + i))) ∧ (∃ n5 : Int, (((b)[(Int.toNat (IntKind.wrap .i64 (at_ + i)))]? = (some [(FV.int .u8 n5)])) ∧ ((((decide ((IntKind.wrap .i64 n5) < 128)) = true) → (R (TV.tup [(false, [(AV.fz (FV.int .i64 0))]), (false, [(AV.fz (FV.int .i64 0))])]) [])) ∧ (((decide ((IntKind.wrap .i64 n5) < 128)) = false) → ((((decide ((192 : Int) ≤ (IntKind.wrap .i64 n5))) = true) → (R (TV.tup [(false, [(AV.fz (FV.int .i64 0))]), (false, [(AV.fz (FV.int .i64 0))])]) [])) ∧ (((decide ((192 : Int) ≤ (IntKind.wrap .i64 n5))) = false) → (ref02_one_L0 R b at_ (IntKind.wrap .i64 ((IntKind.wrap .i64 ((IntKind.wrap .i64 (c * 64)) + (IntKind.wrap .i64 n5))) - 128)) n2 (IntKind.wrap .i64 (i + 1))))))))))) ∧ (((decide (i < n2)) = false) → (∃ b4 : Bool, ((Fn Tryz.prog 38 [(TV.one (AV.fz (FV.int .i64 c)))] [] (TV.one (AV.fz (FV.bool b4))) []) ∧ ((((Bool.not b4) = true) → (R (TV.tup [(false, [(AV.fz (FV.int .i64 0))]), (false, [(AV.fz (FV.int .i64 0))])]) [])) ∧ (((Bool.not b4) = false) → (∃ es3 : List (List FV), ((Fn Tryz.prog 46 [(TV.one (AV.fz (FV.int .i64 c)))] [] (TV.one (AV.fz (FV.sl 1 es3))) []) ∧ (((((((List.length es3) : Nat) : Int) != n2) = true) → (R (TV.tup [(false, [(AV.fz (FV.int .i64 0))]), (false, [(AV.fz (FV.int .i64 0))])]) [])) ∧ ((((((List.length es3) : Nat) : Int) != n2) = false) → (R (TV.tup [(false, [(AV.fz (FV.int .i64 c))]), (false, [(AV.fz (FV.int .i64 n2))])]) [])))))))))))
theorem ref02_one_l0 {R : TV → List Ob → Prop} {b : List (List FV)} {at_ : Int} {c : Int} {n2 : Int} {i : Int} (h : ref02_one_R0 R b at_ c n2 i) : ref02_one_L0 R b at_ c n2 i :=
  LoopAt.by_tr (by kernel_rfl) (by kernel_rfl) h
def ref02_one_H (R : TV → List Ob → Prop) (b : List (List FV)) (at_ : Int) : Prop :=
  (((0 : Int) ≤ at_) ∧ (∃ n5 : Int, (((b)[(Int.toNat at_)]? = (some [(FV.int .u8 n5)])) ∧ ((((decide ((240 : Int) ≤ (IntKind.wrap .i64 n5))) = true) → ((((decide ((IntKind.wrap .i64 n5) < 248)) = true) → ((((decide ((((List.length b) : Nat) : Int) < (IntKind.wrap .i64 (at_ + 4)))) = true) → (R (TV.tup [(false, [(AV.fz (FV.int .i64 0))]), (false, [(AV.fz (FV.int .i64 0))])]) [])) ∧ (((decide ((((List.length b) : Nat) : Int) < (IntKind.wrap .i64 (at_ + 4)))) = false) → (ref02_one_L0 R b at_ (IntKind.wrap .i64 ((IntKind.wrap .i64 n5) - 240)) 4 1)))) ∧ (((decide ((IntKind.wrap .i64 n5) < 248)) = false) → ((((decide ((224 : Int) ≤ (IntKind.wrap .i64 n5))) = true) → ((((decide ((IntKind.wrap .i64 n5) < 240)) = true) → ((((decide ((((List.length b) : Nat) : Int) < (IntKind.wrap .i64 (at_ + 3)))) = true) → (R (TV.tup [(false, [(AV.fz (FV.int .i64 0))]), (false, [(AV.fz (FV.int .i64 0))])]) [])) ∧ (((decide ((((List.length b) : Nat) : Int) < (IntKind.wrap .i64 (at_ + 3)))) = false) → (ref02_one_L0 R b at_ (IntKind.wrap .i64 ((IntKind.wrap .i64 n5) - 224)) 3 1)))) ∧ (((decide ((IntKind.wrap .i64 n5) < 240)) = false) → ((((decide ((192 : Int) ≤ (IntKind.wrap .i64 n5))) = true) → ((((decide ((IntKind.wrap .i64 n5) < 224)) = true) → ((((decide ((((List.length b) : Nat) : Int) < (IntKind.wrap .i64 (at_ + 2)))) = true) → (R (TV.tup [(false, [(AV.fz (FV.int .i64 0))]), (false, [(AV.fz (FV.int .i64 0))])]) [])) ∧ (((decide ((((List.length b) : Nat) : Int) < (IntKind.wrap .i64 (at_ + 2)))) = false) → (ref02_one_L0 R b at_ (IntKind.wrap .i64 ((IntKind.wrap .i64 n5) - 192)) 2 1)))) ∧ (((decide ((IntKind.wrap .i64 n5) < 224)) = false) → ((((decide ((128 : Int) ≤ (IntKind.wrap .i64 n5))) = true) → (R (TV.tup [(false, [(AV.fz (FV.int .i64 0))]), (false, [(AV.fz (FV.int .i64 0))])]) [])) ∧ (((decide ((128 : Int) ≤ (IntKind.wrap .i64 n5))) = false) → ((((decide ((((List.length b) : Nat) : Int) < (IntKind.wrap .i64 (at_ + 1)))) = true) → (R (TV.tup [(false, [(AV.fz (FV.int .i64 0))]), (false, [(AV.fz (FV.int .i64 0))])]) [])) ∧ (((decide ((((List.length b) : Nat) : Int) < (IntKind.wrap .i64 (at_ + 1)))) = false) → (ref02_one_L0 R b at_ (IntKind.wrap .i64 n5) 1 1)))))))) ∧ (((decide ((192 : Int) ≤ (IntKind.wrap .i64 n5))) = false) → ((((decide ((128 : Int) ≤ (IntKind.wrap .i64 n5))) = true) → (R (TV.tup [(false, [(AV.fz (FV.int .i64 0))]), (false, [(AV.fz (FV.int .i64 0))])]) [])) ∧ (((decide ((128 : Int) ≤ (IntKind.wrap .i64 n5))) = false) → ((((decide ((((List.length b) : Nat) : Int) < (IntKind.wrap .i64 (at_ + 1)))) = true) → (R (TV.tup [(false, [(AV.fz (FV.int .i64 0))]), (false, [(AV.fz (FV.int .i64 0))])]) [])) ∧ (((decide ((((List.length b) : Nat) : Int) < (IntKind.wrap .i64 (at_ + 1)))) = false) → (ref02_one_L0 R b at_ (IntKind.wrap .i64 n5) 1 1)))))))))) ∧ (((decide ((224 : Int) ≤ (IntKind.wrap .i64 n5))) = false) → ((((decide ((192 : Int) ≤ (IntKind.wrap .i64 n5))) = true) → ((((decide ((IntKind.wrap .i64 n5) < 224)) = true) → ((((decide ((((List.length b) : Nat) : Int) < (IntKind.wrap .i64 (at_ + 2)))) = true) → (R (TV.tup [(false, [(AV.fz (FV.int .i64 0))]), (false, [(AV.fz (FV.int .i64 0))])]) [])) ∧ (((decide ((((List.length b) : Nat) : Int) < (IntKind.wrap .i64 (at_ + 2)))) = false) → (ref02_one_L0 R b at_ (IntKind.wrap .i64 ((IntKind.wrap .i64 n5) - 192)) 2 1)))) ∧ (((decide ((IntKind.wrap .i64 n5) < 224)) = false) → ((((decide ((128 : Int) ≤ (IntKind.wrap .i64 n5))) = true) → (R (TV.tup [(false, [(AV.fz (FV.int .i64 0))]), (false, [(AV.fz (FV.int .i64 0))])]) [])) ∧ (((decide ((128 : Int) ≤ (IntKind.wrap .i64 n5))) = false) → ((((decide ((((List.length b) : Nat) : Int) < (IntKind.wrap .i64 (at_ + 1)))) = true) → (R (TV.tup [(false, [(AV.fz (FV.int .i64 0))]), (false, [(AV.fz (FV.int .i64 0))])]) [])) ∧ (((decide ((((List.length b) : Nat) : Int) < (IntKind.wrap .i64 (at_ + 1)))) = false) → (ref02_one_L0 R b at_ (IntKind.wrap .i64 n5) 1 1)))))))) ∧ (((decide ((192 : Int) ≤ (IntKind.wrap .i64 n5))) = false) → ((((decide ((128 : Int) ≤ (IntKind.wrap .i64 n5))) = true) → (R (TV.tup [(false, [(AV.fz (FV.int .i64 0))]), (false, [(AV.fz (FV.int .i64 0))])]) [])) ∧ (((decide ((128 : Int) ≤ (IntKind.wrap .i64 n5))) = false) → ((((decide ((((List.length b) : Nat) : Int) < (IntKind.wrap .i64 (at_ + 1)))) = true) → (R (TV.tup [(false, [(AV.fz (FV.int .i64 0))]), (false, [(AV.fz (FV.int .i64 0))])]) [])) ∧ (((decide ((((List.length b) : Nat) : Int) < (IntKind.wrap .i64 (at_ + 1)))) = false) → (ref02_one_L0 R b at_ (IntKind.wrap .i64 n5) 1 1)))))))))))) ∧ (((decide ((240 : Int) ≤ (IntKind.wrap .i64 n5))) = false) → ((((decide ((224 : Int) ≤ (IntKind.wrap .i64 n5))) = true) → ((((decide ((IntKind.wrap .i64 n5) < 240)) = true) → ((((decide ((((List.length b) : Nat) : Int) < (IntKind.wrap .i64 (at_ + 3)))) = true) → (R (TV.tup [(false, [(AV.fz (FV.int .i64 0))]), (false, [(AV.fz (FV.int .i64 0))])]) [])) ∧ (((decide ((((List.length b) : Nat) : Int) < (IntKind.wrap .i64 (at_ + 3)))) = false) → (ref02_one_L0 R b at_ (IntKind.wrap .i64 ((IntKind.wrap .i64 n5) - 224)) 3 1)))) ∧ (((decide ((IntKind.wrap .i64 n5) < 240)) = false) → ((((decide ((192 : Int) ≤ (IntKind.wrap .i64 n5))) = true) → ((((decide ((IntKind.wrap .i64 n5) < 224)) = true) → ((((decide ((((List.length b) : Nat) : Int) < (IntKind.wrap .i64 (at_ + 2)))) = true) → (R (TV.tup [(false, [(AV.fz (FV.int .i64 0))]), (false, [(AV.fz (FV.int .i64 0))])]) [])) ∧ (((decide ((((List.length b) : Nat) : Int) < (IntKind.wrap .i64 (at_ + 2)))) = false) → (ref02_one_L0 R b at_ (IntKind.wrap .i64 ((IntKind.wrap .i64 n5) - 192)) 2 1)))) ∧ (((decide ((IntKind.wrap .i64 n5) < 224)) = false) → ((((decide ((128 : Int) ≤ (IntKind.wrap .i64 n5))) = true) → (R (TV.tup [(false, [(AV.fz (FV.int .i64 0))]), (false, [(AV.fz (FV.int .i64 0))])]) [])) ∧ (((decide ((128 : Int) ≤ (IntKind.wrap .i64 n5))) = false) → ((((decide ((((List.length b) : Nat) : Int) < (IntKind.wrap .i64 (at_ + 1)))) = true) → (R (TV.tup [(false, [(AV.fz (FV.int .i64 0))]), (false, [(AV.fz (FV.int .i64 0))])]) [])) ∧ (((decide ((((List.length b) : Nat) : Int) < (IntKind.wrap .i64 (at_ + 1)))) = false) → (ref02_one_L0 R b at_ (IntKind.wrap .i64 n5) 1 1)))))))) ∧ (((decide ((192 : Int) ≤ (IntKind.wrap .i64 n5))) = false) → ((((decide ((128 : Int) ≤ (IntKind.wrap .i64 n5))) = true) → (R (TV.tup [(false, [(AV.fz (FV.int .i64 0))]), (false, [(AV.fz (FV.int .i64 0))])]) [])) ∧ (((decide ((128 : Int) ≤ (IntKind.wrap .i64 n5))) = false) → ((((decide ((((List.length b) : Nat) : Int) < (IntKind.wrap .i64 (at_ + 1)))) = true) → (R (TV.tup [(false, [(AV.fz (FV.int .i64 0))]), (false, [(AV.fz (FV.int .i64 0))])]) [])) ∧ (((decide ((((List.length b) : Nat) : Int) < (IntKind.wrap .i64 (at_ + 1)))) = false) → (ref02_one_L0 R b at_ (IntKind.wrap .i64 n5) 1 1)))))))))) ∧ (((decide ((224 : Int) ≤ (IntKind.wrap .i64 n5))) = false) → ((((decide ((192 : Int) ≤ (IntKind.wrap .i64 n5))) = true) → ((((decide ((IntKind.wrap .i64 n5) < 224)) = true) → ((((decide ((((List.length b) : Nat) : Int) < (IntKind.wrap .i64 (at_ + 2)))) = true) → (R (TV.tup [(false, [(AV.fz (FV.int .i64 0))]), (false, [(AV.fz (FV.int .i64 0))])]) [])) ∧ (((decide ((((List.length b) : Nat) : Int) < (IntKind.wrap .i64 (at_ + 2)))) = false) → (ref02_one_L0 R b at_ (IntKind.wrap .i64 ((IntKind.wrap .i64 n5) - 192)) 2 1)))) ∧ (((decide ((IntKind.wrap .i64 n5) < 224)) = false) → ((((decide ((128 : Int) ≤ (IntKind.wrap .i64 n5))) = true) → (R (TV.tup [(false, [(AV.fz (FV.int .i64 0))]), (false, [(AV.fz (FV.int .i64 0))])]) [])) ∧ (((decide ((128 : Int) ≤ (IntKind.wrap .i64 n5))) = false) → ((((decide ((((List.length b) : Nat) : Int) < (IntKind.wrap .i64 (at_ + 1)))) = true) → (R (TV.tup [(false, [(AV.fz (FV.int .i64 0))]), (false, [(AV.fz (FV.int .i64 0))])]) [])) ∧ (((decide ((((List.length b) : Nat) : Int) < (IntKind.wrap .i64 (at_ + 1)))) = false) → (ref02_one_L0 R b at_ (IntKind.wrap .i64 n5) 1 1)))))))) ∧ (((decide ((192 : Int) ≤ (IntKind.wrap .i64 n5))) = false) → ((((decide ((128 : Int) ≤ (IntKind.wrap .i64 n5))) = true) → (R (TV.tup [(false, [(AV.fz (FV.int .i64 0))]), (false, [(AV.fz (FV.int .i64 0))])]) [])) ∧ (((decide ((128 : Int) ≤ (IntKind.wrap .i64 n5))) = false) → ((((decide ((((List.length b) : Nat) : Int) < (IntKind.wrap .i64 (at_ + 1)))) = true) → (R (TV.tup [(false, [(AV.fz (FV.int .i64 0))]), (false, [(AV.fz (FV.int .i64 0))])]) [])) ∧ (((decide ((((List.length b) : Nat) : Int) < (IntKind.wrap .i64 (at_ + 1)))) = false) → (ref02_one_L0 R b at_ (IntKind.wrap .i64 n5) 1 1))))))))))))))
theorem ref02_one_fn (b : List (List FV)) (at_ : Int) {r : TV} {h : List Ob} (H : ref02_one_H (fun r' h' => r' = r ∧ h' = h) b at_) : Fn Tryz.prog 67 [(TV.one (AV.fz (FV.sl 1 b))), (TV.one (AV.fz (FV.int .i64 at_)))] [] r h :=
  Fn.by_tr (M := (modeOf [] [])) (lv := ref02_one_lv) (own := none) (F := Tryz.f67) (by kernel_rfl) (by kernel_rfl) (by first | decide | simp) (fun _ _ h => h) (by kernel_rfl) H
def ref02_Blank_lv : List Nat → Keep := lvOf []
def ref02_Blank_H (R : TV → List Ob → Prop) (c : Int) : Prop :=
  ((((c == 9) = true) → (R (TV.one (AV.fz (FV.bool true))) [])) ∧ (((c == 9) = false) → ((((c == 10) = true) → (R (TV.one (AV.fz (FV.bool true))) [])) ∧ (((c == 10) = false) → ((((c == 13) = true) → (R (TV.one (AV.fz (FV.bool true))) [])) ∧ (((c == 13) = false) → (R (TV.one (AV.fz (FV.bool (c == 32)))) [])))))))
theorem ref02_Blank_fn (c : Int) {r : TV} {h : List Ob} (H : ref02_Blank_H (fun r' h' => r' = r ∧ h' = h) c) : Fn Tryz.prog 39 [(TV.one (AV.fz (FV.int .i64 c)))] [] r h :=
  Fn.by_tr (M := (modeOf [] [])) (lv := ref02_Blank_lv) (own := none) (F := Tryz.f39) (by kernel_rfl) (by kernel_rfl) (by first | decide | simp) (fun _ _ h => h) (by kernel_rfl) H
def ref02_Scalar_lv : List Nat → Keep := lvOf []
def ref02_Scalar_H (R : TV → List Ob → Prop) (c : Int) : Prop :=
  ((((decide ((0 : Int) ≤ c)) = true) → ((((decide (c ≤ 1114111)) = true) → ((((decide ((55296 : Int) ≤ c)) = true) → (R (TV.one (AV.fz (FV.bool (Bool.not (decide (c ≤ 57343)))))) [])) ∧ (((decide ((55296 : Int) ≤ c)) = false) → (R (TV.one (AV.fz (FV.bool true))) [])))) ∧ (((decide (c ≤ 1114111)) = false) → (R (TV.one (AV.fz (FV.bool false))) [])))) ∧ (((decide ((0 : Int) ≤ c)) = false) → (R (TV.one (AV.fz (FV.bool false))) [])))
theorem ref02_Scalar_fn (c : Int) {r : TV} {h : List Ob} (H : ref02_Scalar_H (fun r' h' => r' = r ∧ h' = h) c) : Fn Tryz.prog 38 [(TV.one (AV.fz (FV.int .i64 c)))] [] r h :=
  Fn.by_tr (M := (modeOf [] [])) (lv := ref02_Scalar_lv) (own := none) (F := Tryz.f38) (by kernel_rfl) (by kernel_rfl) (by first | decide | simp) (fun _ _ h => h) (by kernel_rfl) H
def ref02_Bytes_lv : List Nat → Keep := lvOf []
def ref02_Bytes_H (R : TV → List Ob → Prop) (c : Int) : Prop :=
  ((((decide (c < 128)) = true) → (R (TV.one (AV.fz (FV.sl 1 [[(FV.int .u8 (IntKind.wrap .u8 c))]]))) [])) ∧ (((decide (c < 128)) = false) → ((((decide (c < 2048)) = true) → (((64 : Int) ≠ 0) ∧ (((64 : Int) ≠ 0) ∧ (R (TV.one (AV.fz (FV.sl 1 [[(FV.int .u8 (IntKind.wrap .u8 (IntKind.wrap .i64 (192 + (IntKind.wrap .i64 (Int.tdiv c 64))))))], [(FV.int .u8 (IntKind.wrap .u8 (IntKind.wrap .i64 (128 + (Int.tmod c 64)))))]]))) [])))) ∧ (((decide (c < 2048)) = false) → ((((decide (c < 65536)) = true) → (((4096 : Int) ≠ 0) ∧ (((64 : Int) ≠ 0) ∧ (((64 : Int) ≠ 0) ∧ (((64 : Int) ≠ 0) ∧ (R (TV.one (AV.fz (FV.sl 1 [[(FV.int .u8 (IntKind.wrap .u8 (IntKind.wrap .i64 (224 + (IntKind.wrap .i64 (Int.tdiv c 4096))))))], [(FV.int .u8 (IntKind.wrap .u8 (IntKind.wrap .i64 (128 + (Int.tmod (IntKind.wrap .i64 (Int.tdiv c 64)) 64)))))], [(FV.int .u8 (IntKind.wrap .u8 (IntKind.wrap .i64 (128 + (Int.tmod c 64)))))]]))) [])))))) ∧ (((decide (c < 65536)) = false) → (((262144 : Int) ≠ 0) ∧ (((4096 : Int) ≠ 0) ∧ (((64 : Int) ≠ 0) ∧ (((64 : Int) ≠ 0) ∧ (((64 : Int) ≠ 0) ∧ (((64 : Int) ≠ 0) ∧ (R (TV.one (AV.fz (FV.sl 1 [[(FV.int .u8 (IntKind.wrap .u8 (IntKind.wrap .i64 (240 + (IntKind.wrap .i64 (Int.tdiv c 262144))))))], [(FV.int .u8 (IntKind.wrap .u8 (IntKind.wrap .i64 (128 + (Int.tmod (IntKind.wrap .i64 (Int.tdiv c 4096)) 64)))))], [(FV.int .u8 (IntKind.wrap .u8 (IntKind.wrap .i64 (128 + (Int.tmod (IntKind.wrap .i64 (Int.tdiv c 64)) 64)))))], [(FV.int .u8 (IntKind.wrap .u8 (IntKind.wrap .i64 (128 + (Int.tmod c 64)))))]]))) [])))))))))))))
theorem ref02_Bytes_fn (c : Int) {r : TV} {h : List Ob} (H : ref02_Bytes_H (fun r' h' => r' = r ∧ h' = h) c) : Fn Tryz.prog 46 [(TV.one (AV.fz (FV.int .i64 c)))] [] r h :=
  Fn.by_tr (M := (modeOf [] [])) (lv := ref02_Bytes_lv) (own := none) (F := Tryz.f46) (by kernel_rfl) (by kernel_rfl) (by first | decide | simp) (fun _ _ h => h) (by kernel_rfl) H
end Go.Proofs.YtejefchehdifhaaGreatDoor.Ev
end
section
set_option linter.unusedVariables false
set_option maxRecDepth 100000
namespace Go.Proofs.YtejefchehdifhaaGreatDoor.Ev
open Go
def slices_ContainsFunc_int_int_lv : List Nat → Keep := lvOf []
def slices_ContainsFunc_int_int_H (R : TV → List Ob → Prop) (s : List (List FV)) (f : FV) : Prop :=
  (∃ n1 : Int, ((Fn Tryz.prog 31 [(TV.one (AV.fz (FV.sl 1 s))), (TV.one (AV.fz f))] [] (TV.one (AV.fz (FV.int .i64 n1))) []) ∧ (R (TV.one (AV.fz (FV.bool (decide ((0 : Int) ≤ n1))))) [])))
theorem slices_ContainsFunc_int_int_fn (s : List (List FV)) (f : FV) {r : TV} {h : List Ob} (H : slices_ContainsFunc_int_int_H (fun r' h' => r' = r ∧ h' = h) s f) : Fn Tryz.prog 50 [(TV.one (AV.fz (FV.sl 1 s))), (TV.one (AV.fz f))] [] r h :=
  Fn.by_tr (M := (modeOf [] [])) (lv := slices_ContainsFunc_int_int_lv) (own := none) (F := Tryz.f50) (by kernel_rfl) (by kernel_rfl) (by first | decide | simp) (fun _ _ h => h) (by kernel_rfl) H
def ixEnds_lv : List Nat → Keep := lvOf [([0, 1, 0, 1], ⟨387, 0, [], false, false⟩)]
def ixEnds_S0 (s : List (List FV)) (i : Int) : St := (St.mk [(TV.one (AV.fz (FV.sl 1 s))), (TV.one (AV.fz (FV.fn 51 []))), TV.und, TV.und, TV.und, TV.und, TV.und, (TV.one (AV.fz (FV.int .i64 (((List.length s) : Nat) : Int)))), (TV.one (AV.fz (FV.int .i64 i))), TV.und, TV.und, TV.und, TV.und, TV.und, TV.und, TV.und, TV.und, TV.und, TV.und] [])
def ixEnds_L0 (R : TV → List Ob → Prop) (s : List (List FV)) (i : Int) : Prop := LoopAt Tryz.prog (modeOf [] []) ixEnds_lv Tryz.f31 none R [1, 0, 1, 0] (ixEnds_S0 s i)
def ixEnds_R0 (R : TV → List Ob → Prop) (s : List (List FV)) (i : Int) : Prop :=
  ((((decide (i < (((List.length s) : Nat) : Int))) = true) → (((0 : Int) ≤ i) ∧ (∃ n2 : Int, (((s)[(Int.toNat i)]? = (some [(FV.int .i64 n2)])) ∧ (∃ b2 : Bool, ((Fn Tryz.prog 51 [(TV.one (AV.fz (FV.int .i64 n2)))] [] (TV.one (AV.fz (FV.bool b2))) []) ∧ (((b2 = true) → (R (TV.one (AV.fz (FV.int .i64 i))) [])) ∧ ((b2 = false) → (ixEnds_L0 R s (IntKind.wrap .i64 (i + 1))))))))))) ∧ (((decide (i < (((List.length s) : Nat) : Int))) = false) → (R (TV.one (AV.fz (FV.int .i64 (-1)))) [])))
theorem ixEnds_l0 {R : TV → List Ob → Prop} {s : List (List FV)} {i : Int} (h : ixEnds_R0 R s i) : ixEnds_L0 R s i :=
  LoopAt.by_tr (by kernel_rfl) (by kernel_rfl) h
def ixEnds_H (R : TV → List Ob → Prop) (s : List (List FV)) : Prop :=
  (ixEnds_L0 R s 0)
theorem ixEnds_fn (s : List (List FV)) {r : TV} {h : List Ob} (H : ixEnds_H (fun r' h' => r' = r ∧ h' = h) s) : Fn Tryz.prog 31 [(TV.one (AV.fz (FV.sl 1 s))), (TV.one (AV.fz (FV.fn 51 [])))] [] r h :=
  Fn.by_tr (M := (modeOf [] [])) (lv := ixEnds_lv) (own := none) (F := Tryz.f31) (by kernel_rfl) (by kernel_rfl) (by first | decide | simp) (fun _ _ h => h) (by kernel_rfl) H
end Go.Proofs.YtejefchehdifhaaGreatDoor.Ev
end
section
set_option linter.unusedVariables false
set_option linter.unusedSimpArgs false
namespace Go.Proofs.YtejefchehdifhaaGreatDoor.Ev
open Go Go.RowKit
theorem flat2 {α : Type} (f g : Nat → α) : ∀ (n : Nat), (((List.range n).map fun i => [f i, g i]).flatten).length = 2 * n ∧ ∀ i, i < n → (((List.range n).map fun i => [f i, g i]).flatten)[2 * i]? = some (f i) ∧ (((List.range n).map fun i => [f i, g i]).flatten)[2 * i + 1]? = some (g i)
  | 0 => ⟨rfl, fun i h => by omega⟩
  | n + 1 => by
    obtain ⟨h1, h2⟩ := flat2 f g n
    rw [List.range_succ, List.map_append, List.flatten_append]
    refine ⟨by rw [List.length_append, h1]; simp; omega, fun i hi => ?_⟩
    by_cases h : i < n
    · rw [List.getElem?_append_left (by omega), List.getElem?_append_left (by omega)]
      exact h2 i h
    · have : i = n := by omega
      subst this
      rw [List.getElem?_append_right (by omega), List.getElem?_append_right (by omega), h1]
      simp
theorem utf_tabs {w : World} (h : Glob w) : Lib.Utf8Tabs 2 3 w := by
  constructor
  · intro c hc
    have h1 := h (2, (List.range 256).map fun c => FV.int .u8 ((Go.Lib.firstT c : Nat) : Int)) (by simp [tabs])
    obtain ⟨cs, t, z, h2, h3, h4⟩ := h1
    obtain ⟨v, hv, hr⟩ := h4 c (.int .u8 ((Go.Lib.firstT c : Nat) : Int)) (by simp [hc])
    cases hr
    simp only at h2
    simp [World.cell?, h2, hv]
  · intro i hi
    have h1 := h (3, ((List.range 16).map fun i => [FV.int .u8 ((Go.Lib.accLo i : Nat) : Int), FV.int .u8 ((Go.Lib.accHi i : Nat) : Int)]).flatten) (by simp [tabs])
    obtain ⟨cs, t, z, h2, h3, h4⟩ := h1
    have hf := (flat2 (fun i => FV.int .u8 ((Go.Lib.accLo i : Nat) : Int)) (fun i => FV.int .u8 ((Go.Lib.accHi i : Nat) : Int)) 16).2 i hi
    obtain ⟨v, hv, hr⟩ := h4 (2 * i) _ hf.1
    obtain ⟨v', hv', hr'⟩ := h4 (2 * i + 1) _ hf.2
    cases hr; cases hr'
    simp only at h2
    simp [World.cell?, h2, hv, hv']
def chN (n b0 b1 b2 b3 : Int) : Int × Int :=
  if b0 < 128 then (b0, 1)
  else if 192 ≤ b0 ∧ b0 < 224 then (if 2 ≤ n ∧ 128 ≤ b1 ∧ b1 < 192 ∧ 128 ≤ (b0 - 192) * 64 + b1 - 128 then ((b0 - 192) * 64 + b1 - 128, 2) else (0, 0))
  else if 224 ≤ b0 ∧ b0 < 240 then
    (if 3 ≤ n ∧ 128 ≤ b1 ∧ b1 < 192 ∧ 128 ≤ b2 ∧ b2 < 192 ∧ 2048 ≤ ((b0 - 224) * 64 + b1 - 128) * 64 + b2 - 128 ∧ ¬ (55296 ≤ ((b0 - 224) * 64 + b1 - 128) * 64 + b2 - 128 ∧ ((b0 - 224) * 64 + b1 - 128) * 64 + b2 - 128 ≤ 57343)
     then (((b0 - 224) * 64 + b1 - 128) * 64 + b2 - 128, 3) else (0, 0))
  else if 240 ≤ b0 ∧ b0 < 248 then
    (if 4 ≤ n ∧ 128 ≤ b1 ∧ b1 < 192 ∧ 128 ≤ b2 ∧ b2 < 192 ∧ 128 ≤ b3 ∧ b3 < 192 ∧ 65536 ≤ (((b0 - 240) * 64 + b1 - 128) * 64 + b2 - 128) * 64 + b3 - 128 ∧ (((b0 - 240) * 64 + b1 - 128) * 64 + b2 - 128) * 64 + b3 - 128 ≤ 1114111
     then ((((b0 - 240) * 64 + b1 - 128) * 64 + b2 - 128) * 64 + b3 - 128, 4) else (0, 0))
  else (0, 0)
def ch1 (l : List Int) : Int × Int := chN l.length (rd l 0) (rd l 1) (rd l 2) (rd l 3)
theorem decodeN_chN' (n b0 b1 b2 b3 : Nat) (h0 : b0 < 256) (h1 : b1 < 256) (h2 : b2 < 256) (h3 : b3 < 256) (p : Nat × Nat) (hp : Lib.decodeN n b0 b1 b2 b3 = p) (q : Int × Int) (hq : chN n b0 b1 b2 b3 = q) :
    (q.1 = 0 ∧ q.2 = 0 ∧ p.1 = 65533 ∧ p.2 = 1) ∨ (q.1 = (p.1 : Int) ∧ q.2 = (p.2 : Int) ∧ ¬ (p.1 = 65533 ∧ p.2 < 2)) := by
  unfold Lib.decodeN at hp
  unfold chN at hq
  repeat' split at hp
  all_goals subst hp
  all_goals repeat' split at hq
  all_goals subst hq
  all_goals first | (exfalso; omega) | (refine .inl ⟨rfl, rfl, rfl, rfl⟩) | (refine .inr ⟨?_, ?_, ?_⟩ <;> simp only <;> omega)
theorem decodeN_chN (n b0 b1 b2 b3 : Nat) (h0 : b0 < 256) (h1 : b1 < 256) (h2 : b2 < 256) (h3 : b3 < 256) :
    (chN n b0 b1 b2 b3 = (0, 0) ∧ Lib.decodeN n b0 b1 b2 b3 = (65533, 1)) ∨ (chN n b0 b1 b2 b3 = (((Lib.decodeN n b0 b1 b2 b3).1 : Int), ((Lib.decodeN n b0 b1 b2 b3).2 : Int)) ∧ ¬ ((Lib.decodeN n b0 b1 b2 b3).1 = 65533 ∧ (Lib.decodeN n b0 b1 b2 b3).2 < 2)) := by
  rcases decodeN_chN' n b0 b1 b2 b3 h0 h1 h2 h3 _ rfl _ rfl with ⟨e1, e2, e3, e4⟩ | ⟨e1, e2, e3⟩
  · exact .inl ⟨Prod.ext e1 e2, Prod.ext e3 e4⟩
  · exact .inr ⟨Prod.ext e1 e2, e3⟩
theorem rd_byte {l : List Int} (h : Bytes l) (i : Nat) : 0 ≤ rd l i ∧ rd l i < 256 := by
  by_cases hi : i < l.length
  · rw [rd_at l i hi]; exact h _ (List.getElem_mem _)
  · unfold rd; rw [List.getD_eq_getElem?_getD, List.getElem?_eq_none (by omega)]; simp
theorem get_of {l : List Int} (h : Bytes l) (i : Nat) : ((bytesOf l).get! i).toNat = (rd l i).toNat := by
  have e : (bytesOf l).get! i = ((bytesOf l).data[i]?).getD default := by
    show (bytesOf l).data[i]! = _
    rw [getElem!_def]
    cases (bytesOf l).data[i]? <;> rfl
  rw [e]
  by_cases hi : i < l.length
  · obtain ⟨c, hc, hcn⟩ := byte_at h hi
    rw [hc, Option.getD_some, ← hcn]; rfl
  · have hn : (bytesOf l).data[i]? = none := by
      rw [Array.getElem?_eq_none]
      have h1 := size_of l
      have h2 : (bytesOf l).data.size = (bytesOf l).size := rfl
      omega
    rw [hn]
    unfold rd; rw [List.getD_eq_getElem?_getD, List.getElem?_eq_none (by omega)]; rfl
def deR (l : List Int) : Int := ((Lib.decodeGo (bytesOf l)).1 : Int)
def deN (l : List Int) : Int := ((Lib.decodeGo (bytesOf l)).2 : Int)
theorem de_ch1 {l : List Int} (h : Bytes l) (hne : l ≠ []) : (ch1 l = (0, 0) ∧ deR l = 65533 ∧ deN l = 1) ∨ (ch1 l = (deR l, deN l) ∧ ¬ (deR l = 65533 ∧ deN l < 2)) := by
  have hs : (bytesOf l).size = l.length := size_of l
  have hl : l.length ≠ 0 := fun h => hne (List.length_eq_zero_iff.1 h)
  have e : Lib.decodeGo (bytesOf l) = Lib.decodeN l.length (rd l 0).toNat (rd l 1).toNat (rd l 2).toNat (rd l 3).toNat := by
    unfold Lib.decodeGo
    rw [if_neg (by omega), Lib.decode_at, hs]
    simp only [Nat.sub_zero, Nat.zero_add, get_of h]
  unfold deR deN ch1
  rw [e]
  have b0 := rd_byte h 0; have b1 := rd_byte h 1; have b2 := rd_byte h 2; have b3 := rd_byte h 3
  have k := decodeN_chN l.length (rd l 0).toNat (rd l 1).toNat (rd l 2).toNat (rd l 3).toNat (by omega) (by omega) (by omega) (by omega)
  rw [Int.toNat_of_nonneg b0.1, Int.toNat_of_nonneg b1.1, Int.toNat_of_nonneg b2.1, Int.toNat_of_nonneg b3.1] at k
  rcases k with ⟨k1, k2⟩ | ⟨k1, k2⟩
  · left
    exact ⟨k1, by rw [k2]; rfl, by rw [k2]; rfl⟩
  · right
    exact ⟨k1, by omega⟩
theorem chN_bounds (n b0 b1 b2 b3 : Int) (h0 : 0 ≤ b0) (h1 : b0 < 256) (hn : 1 ≤ n) : 0 ≤ (chN n b0 b1 b2 b3).1 ∧ (chN n b0 b1 b2 b3).1 ≤ 1114111 ∧ 0 ≤ (chN n b0 b1 b2 b3).2 ∧ (chN n b0 b1 b2 b3).2 ≤ n ∧ (chN n b0 b1 b2 b3).2 ≤ 4 := by
  unfold chN
  repeat' split
  all_goals (simp only; omega)
theorem ch1_bounds {l : List Int} (h : Bytes l) (hne : l ≠ []) : 0 ≤ (ch1 l).1 ∧ (ch1 l).1 ≤ 1114111 ∧ 0 ≤ (ch1 l).2 ∧ (ch1 l).2 ≤ l.length ∧ (ch1 l).2 ≤ 4 := by
  have hl : l.length ≠ 0 := fun h => hne (List.length_eq_zero_iff.1 h)
  have b0 := rd_byte h 0
  exact chN_bounds _ _ _ _ _ b0.1 b0.2 (by omega)
theorem DecodeRune_fn {l : List Int} (h : Bytes l) (hne : l ≠ []) : Fn Tryz.prog 87 [fzS .u8 l] [] (.tup [(false, [.fz (.int .i32 (deR l))]), (false, [.fz (.int .i64 (deN l))])]) [] := by
  intro ext w locs vals H hsz hrep
  obtain ⟨v, hv, hr⟩ := hrep 0 _ rfl
  have e : vals = #[v] := by
    apply Array.ext
    · simpa using hsz
    · intro i h1 h2
      have : i = 0 := by simp at h2; omega
      subst this
      rw [Array.getElem?_eq_getElem h1] at hv
      simpa using hv
  subst e
  replace hr : RF w (Bar ext locs []) (.sl 1 (ints .u8 l)) v := hr
  clear hrep hsz hv
  generalize hL : ints .u8 l = L at hr
  cases hr with
  | slN sz a c => exact absurd (ints_eq_nil.1 hL) hne
  | sl es b off c sz cv hb hc hsz hcell hr =>
    subst hL
    have hs : (bytesOf l).size = (ints .u8 l).length := by rw [size_of, ints_len]
    have key := Tryz.utf8_DecodeRune (bytesOf l) b off c w (utf_tabs H.glob) (fun j hj => by
      rw [size_of] at hj
      have hg : (ints .u8 l)[j]? = some [.int .u8 (rd l j)] := by simp [ints, rd_at l j hj, hj]
      have h1 := hcell j _ 0 _ hg rfl
      have h2 := hr j _ 0 _ hg rfl
      rw [Nat.mul_one, Nat.add_zero] at h1
      rw [h1]
      generalize cv j 0 = u at h2
      cases h2
      rw [get_of h, Int.toNat_of_nonneg (rd_byte h j).1])
    rw [hs] at key
    refine key.mono ?_
    rintro e w' ⟨rfl, hb⟩
    refine ⟨.tuple #[.int .i32 (deR l), .int .i64 (deN l)], locs, rfl, H.below hb, #[.int .i32 (deR l), .int .i64 (deN l)], rfl, rfl, fun i b' cs hi => ?_⟩
    match i with
    | 0 =>
      cases hi
      refine ⟨.int .i32 (deR l), rfl, [.int .i32 (deR l)], rfl, rfl, fun _ => rfl, fun j x hj => ?_⟩
      cases j with
      | zero => cases hj; exact ⟨_, rfl, .int _ _⟩
      | succ j => simp at hj
    | 1 =>
      cases hi
      refine ⟨.int .i64 (deN l), rfl, [.int .i64 (deN l)], rfl, rfl, fun _ => rfl, fun j x hj => ?_⟩
      cases j with
      | zero => cases hj; exact ⟨_, rfl, .int _ _⟩
      | succ j => simp at hj
    | i + 2 => simp at hi
def chs : Nat → List Int → Nat → List Int → List Int × Int
  | 0, _, _, _ => ([], -1)
  | f + 1, l, at_, acc => if l.length ≤ at_ then (acc, -1) else if (ch1 (l.drop at_)).2 = 0 then ([], at_) else chs f l (at_ + (ch1 (l.drop at_)).2.toNat) (acc ++ [(ch1 (l.drop at_)).1])
def chars (l : List Int) : List Int × Int := chs (l.length + 1) l 0 []
theorem drop_bytes {l : List Int} (h : Bytes l) (n : Nat) : Bytes (l.drop n) := fun x hx => h x (List.mem_of_mem_drop hx)
theorem w32_in {n : Int} (h0 : -2147483648 ≤ n) (h1 : n ≤ 2147483647) : IntKind.wrap .i32 n = n := IntWalk.i32_in n ⟨h0, h1⟩
theorem decode_loop (l : List Int) (h : Bytes l) (hlen : l.length ≤ 65536) (R : TV → List Ob → Prop)
    (hok : (chars l).2 = -1 → R (.tup [(false, [.fz (.sl 1 (ints .i64 (chars l).1))]), (false, [.fz (.int .i64 0)]), (false, [.fz (.int .i64 0)])]) [])
    (hbad : (chars l).2 ≠ -1 → R (.tup [(false, [.fz (.sl 1 ([] : List (List FV)))]), (false, [.fz (.int .i64 (chars l).2)]), (false, [.fz (.int .i64 4)])]) []) :
    ∀ (f at_ : Nat) (acc : List Int), at_ ≤ l.length → l.length - at_ < f → acc.length ≤ at_ → chs f l at_ acc = chars l → utf_Decode_L0 R (ints .u8 l) at_ (ints .i64 acc)
  | 0, at_, acc, h1, h2, h3, h4 => by omega
  | f + 1, at_, acc, h1, h2, h3, h4 => by
    refine utf_Decode_l0 ?_
    unfold utf_Decode_R0
    unfold chs at h4
    simp only [ints_len, ints_app, ints_snoc, ints_take, ints_drop, ints_set, ints_rep, ints_one, ex_rd, dec_t, dec_f, beq_t, beq_f, bne_t, bne_f, not_t, not_f, List.length_set, List.length_append, List.length_cons, List.length_nil, List.length_take, List.length_drop, List.length_replicate, Int.toNat_natCast, List.nil_append, Bool.not_true, Bool.not_false, Wk_nil, Wk_cons, wk1_same, wk1_f, and_true, true_and, Bool.false_eq_true, Bool.true_eq_false, false_implies, forall_const]
    by_cases hat : l.length ≤ at_
    · rw [if_pos hat] at h4
      refine ⟨fun h => by omega, fun _ => ?_⟩
      rw [← h4] at hok
      exact hok rfl
    · rw [if_neg hat] at h4
      have hne : l.drop at_ ≠ [] := fun e => by have := congrArg List.length e; simp at this; omega
      have hb := drop_bytes h at_
      have hd := DecodeRune_fn hb hne
      have hc := de_ch1 hb hne
      have hbd := ch1_bounds hb hne
      rw [List.length_drop] at hbd
      refine ⟨fun _ => ⟨by omega, _, _, hd, ?_⟩, fun h => by omega⟩
      rcases hc with ⟨c1, c2, c3⟩ | ⟨c1, c2⟩
      · rw [c1, if_pos rfl] at h4
        rw [← h4] at hbad
        refine ⟨fun _ => ⟨fun _ => hbad (by simp only; omega), fun h => by omega⟩, fun h => absurd c2 h⟩
      · have g1 : (ch1 (l.drop at_)).1 = deR (l.drop at_) := by rw [c1]
        have g2 : (ch1 (l.drop at_)).2 = deN (l.drop at_) := by rw [c1]
        have hn0 : (ch1 (l.drop at_)).2 ≠ 0 := by
          intro h0
          rw [g1, g2] at *
          have hd0 : deN (l.drop at_) = 0 := h0
          have hg : 1 ≤ deN (l.drop at_) := by
            have := hbd
            unfold deN
            unfold deN at hd0
            have hs : (bytesOf (l.drop at_)).size = (l.drop at_).length := size_of _
            have hl : (l.drop at_).length ≠ 0 := fun h => hne (List.length_eq_zero_iff.1 h)
            unfold Lib.decodeGo at hd0 ⊢
            rw [if_neg (by omega), Lib.decode_at] at hd0 ⊢
            revert hd0
            unfold Lib.decodeN
            repeat' split
            all_goals (simp)
          omega
        rw [if_neg hn0, g1, g2] at h4
        rw [g1, g2] at hbd
        have ih := decode_loop l h hlen R hok hbad f (at_ + (deN (l.drop at_)).toNat) (acc ++ [deR (l.drop at_)]) (by omega) (by omega) (by rw [List.length_append, List.length_singleton]; omega) h4
        have e1 : IntKind.wrap .i64 (deR (l.drop at_)) = deR (l.drop at_) := w64 (by omega) (by omega)
        have e2 : IntKind.wrap .i64 ((at_ : Int) + deN (l.drop at_)) = ((at_ + (deN (l.drop at_)).toNat : Nat) : Int) := by rw [w64 (by omega) (by omega)]; omega
        rw [e1, e2]
        refine ⟨fun h65 => ⟨fun h => by omega, fun _ => ⟨by omega, ih⟩⟩, fun _ => ⟨by omega, ih⟩⟩
def decL (l : List Int) : List Int := if 65536 < l.length then [] else if (chars l).2 = -1 then (chars l).1 else []
def decA (l : List Int) : Int := if 65536 < l.length then 0 else if (chars l).2 = -1 then 0 else (chars l).2
def decE (l : List Int) : Int := if 65536 < l.length then 6 else if (chars l).2 = -1 then 0 else 4
theorem utfDecode_ok (l : List Int) (h : Bytes l) : Fn Tryz.prog 48 [fzS .u8 l] [] (.tup [(false, [.fz (.sl 1 (ints .i64 (decL l)))]), (false, [.fz (.int .i64 (decA l))]), (false, [.fz (.int .i64 (decE l))])]) [] := by
  refine utf_Decode_fn _ ?_
  unfold utf_Decode_H decL decA decE
  rw [ints_len, dec_t, dec_f]
  refine ⟨fun h1 => ?_, fun h1 => ?_⟩
  · have hl : 65536 < l.length := by omega
    simp [if_pos hl, ints]
  · have hl : ¬ 65536 < l.length := by omega
    simp only [if_neg hl]
    refine decode_loop l h (by omega) _ (fun h2 => ?_) (fun h2 => ?_) (l.length + 1) 0 [] (by omega) (by omega) (by simp) rfl
    · simp [if_pos h2]
    · simp [if_neg h2, ints]
end Go.Proofs.YtejefchehdifhaaGreatDoor.Ev
end
section
set_option linter.unusedVariables false
set_option linter.unusedSimpArgs false
namespace Go.Proofs.YtejefchehdifhaaGreatDoor.Ev
open Go
def scalB (c : Int) : Bool := decide (0 ≤ c) && decide (c ≤ 1114111) && !(decide (55296 ≤ c) && decide (c ≤ 57343))
theorem rScalar_ok (c : Int) : Fn Tryz.prog 38 [fzI .i64 c] [] (fzB (scalB c)) [] := by
  refine ref02_Scalar_fn _ ?_
  unfold ref02_Scalar_H scalB
  rw [dec_t, dec_f, dec_t, dec_f, dec_t, dec_f]
  refine ⟨fun h => ⟨fun h2 => ⟨fun h3 => ?_, fun h3 => ?_⟩, fun h2 => ?_⟩, fun h => ?_⟩
  · rw [decide_eq_true h, decide_eq_true h2, decide_eq_true h3]; exact ⟨rfl, rfl⟩
  · rw [decide_eq_true h, decide_eq_true h2, decide_eq_false h3]; exact ⟨rfl, rfl⟩
  · rw [decide_eq_false h2, Bool.and_false]; exact ⟨rfl, rfl⟩
  · rw [decide_eq_false h]; exact ⟨rfl, rfl⟩
def utfB (c : Int) : List Int :=
  if c < 128 then [c] else if c < 2048 then [192 + c / 64, 128 + c % 64]
  else if c < 65536 then [224 + c / 4096, 128 + c / 64 % 64, 128 + c % 64]
  else [240 + c / 262144, 128 + c / 4096 % 64, 128 + c / 64 % 64, 128 + c % 64]
theorem rBytes_ok (c : Int) (h : scalB c = true) : Fn Tryz.prog 46 [fzI .i64 c] [] (fzS .u8 (utfB c)) [] := by
  unfold scalB at h
  simp only [Bool.and_eq_true, decide_eq_true_eq] at h
  obtain ⟨⟨h0, h1⟩, _⟩ := h
  refine ref02_Bytes_fn _ ?_
  unfold ref02_Bytes_H utfB
  rw [dec_t, dec_f, dec_t, dec_f, dec_t, dec_f]
  have t1 : Int.tdiv c 64 = c / 64 := Int.tdiv_eq_ediv_of_nonneg h0
  have t2 : Int.tdiv c 4096 = c / 4096 := Int.tdiv_eq_ediv_of_nonneg h0
  have t3 : Int.tdiv c 262144 = c / 262144 := Int.tdiv_eq_ediv_of_nonneg h0
  have m1 : Int.tmod c 64 = c % 64 := Int.tmod_eq_emod_of_nonneg h0
  have w1 : IntKind.wrap .i64 (c / 64) = c / 64 := w64 (by omega) (by omega)
  have w2 : IntKind.wrap .i64 (c / 4096) = c / 4096 := w64 (by omega) (by omega)
  have w3 : IntKind.wrap .i64 (c / 262144) = c / 262144 := w64 (by omega) (by omega)
  have m2 : Int.tmod (c / 64) 64 = c / 64 % 64 := Int.tmod_eq_emod_of_nonneg (by omega)
  have m3 : Int.tmod (c / 4096) 64 = c / 4096 % 64 := Int.tmod_eq_emod_of_nonneg (by omega)
  have v1 : IntKind.wrap .i64 (128 + c % 64) = 128 + c % 64 := w64 (by omega) (by omega)
  have v2 : IntKind.wrap .i64 (128 + c / 64 % 64) = 128 + c / 64 % 64 := w64 (by omega) (by omega)
  have v3 : IntKind.wrap .i64 (128 + c / 4096 % 64) = 128 + c / 4096 % 64 := w64 (by omega) (by omega)
  have u1 : IntKind.wrap .u8 (128 + c % 64) = 128 + c % 64 := wu8 (by omega) (by omega)
  have u2 : IntKind.wrap .u8 (128 + c / 64 % 64) = 128 + c / 64 % 64 := wu8 (by omega) (by omega)
  have u3 : IntKind.wrap .u8 (128 + c / 4096 % 64) = 128 + c / 4096 % 64 := wu8 (by omega) (by omega)
  refine ⟨fun h => ?_, fun h => ⟨fun h2 => ⟨by omega, by omega, ?_⟩, fun h2 => ⟨fun h3 => ⟨by omega, by omega, by omega, by omega, ?_⟩, fun h3 => ⟨by omega, by omega, by omega, by omega, by omega, by omega, ?_⟩⟩⟩⟩
  · rw [if_pos h, wu8 (by omega) (by omega)]; exact ⟨rfl, rfl⟩
  · have x1 : IntKind.wrap .i64 (192 + c / 64) = 192 + c / 64 := w64 (by omega) (by omega)
    have x2 : IntKind.wrap .u8 (192 + c / 64) = 192 + c / 64 := wu8 (by omega) (by omega)
    rw [if_neg h, if_pos h2, t1, w1, x1, x2, m1, v1, u1]; exact ⟨rfl, rfl⟩
  · have x1 : IntKind.wrap .i64 (224 + c / 4096) = 224 + c / 4096 := w64 (by omega) (by omega)
    have x2 : IntKind.wrap .u8 (224 + c / 4096) = 224 + c / 4096 := wu8 (by omega) (by omega)
    rw [if_neg h, if_neg h2, if_pos h3, t2, w2, x1, x2, t1, w1, m2, v2, u2, m1, v1, u1]; exact ⟨rfl, rfl⟩
  · have x1 : IntKind.wrap .i64 (240 + c / 262144) = 240 + c / 262144 := w64 (by omega) (by omega)
    have x2 : IntKind.wrap .u8 (240 + c / 262144) = 240 + c / 262144 := wu8 (by omega) (by omega)
    rw [if_neg h, if_neg h2, if_neg h3, t3, w3, x1, x2, t2, w2, m3, v3, u3, t1, w1, m2, v2, u2, m1, v1, u1]; exact ⟨rfl, rfl⟩
theorem utfB_len (c : Int) : ((utfB c).length : Int) = if c < 128 then 1 else if c < 2048 then 2 else if c < 65536 then 3 else 4 := by
  unfold utfB
  repeat' split
  all_goals rfl
abbrev oneT (p : Int × Int) : TV := .tup [(false, [.fz (.int .i64 p.1)]), (false, [.fz (.int .i64 p.2)])]
def oneZ (c n : Int) : Int × Int := if scalB c = true ∧ ((utfB c).length : Int) = n then (c, n) else (0, 0)
theorem one_end (b : List (List FV)) (at_ c n i : Int) (hi : ¬ i < n) (R : TV → List Ob → Prop) (hR : R (oneT (oneZ c n)) []) : ref02_one_L0 R b at_ c n i := by
  refine ref02_one_l0 ?_
  unfold ref02_one_R0
  rw [dec_t, dec_f]
  refine ⟨fun h => absurd h hi, fun _ => ⟨_, rScalar_ok c, ?_⟩⟩
  unfold oneZ at hR
  rw [not_t, not_f]
  refine ⟨fun h => ?_, fun h => ⟨_, rBytes_ok c h, ?_⟩⟩
  · rw [if_neg (by rw [h]; simp)] at hR; exact hR
  · rw [ints_len, bne_t, bne_f]
    refine ⟨fun h2 => ?_, fun h2 => ?_⟩
    · rw [if_neg (fun h3 => h2 h3.2)] at hR; exact hR
    · rw [if_pos ⟨h, h2⟩] at hR; exact hR
def oneS (x : Int) (p : Int × Int) : Int × Int := if x < 128 ∨ 192 ≤ x then (0, 0) else p
theorem one_step (l : List Int) (hl : Bytes l) (hlen : l.length ≤ 140737488355328) (at_ i : Nat) (c n : Int) (hi : (i : Int) < n) (hn : at_ + i < l.length) (hc0 : 0 ≤ c) (hc1 : c ≤ 1114111) (p : Int × Int) (R : TV → List Ob → Prop) (hR : R (oneT (oneS (rd l (at_ + i)) p)) [])
    (hk : 128 ≤ rd l (at_ + i) → rd l (at_ + i) < 192 → R (oneT p) [] → ref02_one_L0 R (ints .u8 l) at_ (c * 64 + rd l (at_ + i) - 128) n ((i + 1 : Nat) : Int)) : ref02_one_L0 R (ints .u8 l) at_ c n i := by
  refine ref02_one_l0 ?_
  unfold ref02_one_R0
  have e1 : IntKind.wrap .i64 ((at_ : Int) + (i : Int)) = ((at_ + i : Nat) : Int) := w64 (by omega) (by omega)
  have hb := rd_byte hl (at_ + i)
  have e2 : IntKind.wrap .i64 (rd l (at_ + i)) = rd l (at_ + i) := w64 (by omega) (by omega)
  have e3 : IntKind.wrap .i64 ((i : Int) + 1) = ((i + 1 : Nat) : Int) := w64 (by omega) (by omega)
  have e4 : IntKind.wrap .i64 (c * 64) = c * 64 := w64 (by omega) (by omega)
  have e5 : IntKind.wrap .i64 (c * 64 + rd l (at_ + i)) = c * 64 + rd l (at_ + i) := w64 (by omega) (by omega)
  have e6 : IntKind.wrap .i64 (c * 64 + rd l (at_ + i) - 128) = c * 64 + rd l (at_ + i) - 128 := w64 (by omega) (by omega)
  have hg : (ints .u8 l)[at_ + i]? = some [.int .u8 (rd l (at_ + i))] := by simp [ints, rd_at l _ hn, hn]
  rw [e1, Int.toNat_natCast, e3, dec_t, dec_f]
  unfold oneS at hR
  refine ⟨fun _ => ⟨by omega, _, hg, ?_⟩, fun h => absurd hi h⟩
  rw [e2, dec_t, dec_f, dec_t, dec_f, e4, e5, e6]
  refine ⟨fun h => ?_, fun h => ⟨fun h2 => ?_, fun h2 => ?_⟩⟩
  · rw [if_pos (.inl h)] at hR; exact hR
  · rw [if_pos (.inr h2)] at hR; exact hR
  · rw [if_neg (by omega)] at hR
    exact hk (by omega) (by omega) hR
theorem oneZ_eq (c n : Int) : oneZ c n = if (0 ≤ c ∧ c ≤ 1114111 ∧ ¬ (55296 ≤ c ∧ c ≤ 57343)) ∧ (if c < 128 then 1 else if c < 2048 then 2 else if c < 65536 then 3 else 4) = n then (c, n) else (0, 0) := by
  unfold oneZ
  have e : (scalB c = true) ↔ (0 ≤ c ∧ c ≤ 1114111 ∧ ¬ (55296 ≤ c ∧ c ≤ 57343)) := by
    unfold scalB
    simp only [Bool.and_eq_true, Bool.not_eq_true', Bool.and_eq_false_iff, decide_eq_true_eq, decide_eq_false_iff_not]
    omega
  simp only [e, utfB_len]
theorem one_two (l : List Int) (hl : Bytes l) (hlen : l.length ≤ 140737488355328) (at_ : Nat) (c : Int) (hn : at_ + 1 < l.length) (hc0 : 0 ≤ c) (hc1 : c < 32) (R : TV → List Ob → Prop) (hR : R (oneT (oneS (rd l (at_ + 1)) (oneZ (c * 64 + rd l (at_ + 1) - 128) 2))) []) : ref02_one_L0 R (ints .u8 l) at_ c 2 1 := by
  have hb := rd_byte hl (at_ + 1)
  exact one_step l hl hlen at_ 1 c 2 (by omega) hn hc0 (by omega) _ R hR fun _ _ hR => one_end _ _ _ _ _ (by omega) R hR
theorem one_three (l : List Int) (hl : Bytes l) (hlen : l.length ≤ 140737488355328) (at_ : Nat) (c : Int) (hn : at_ + 2 < l.length) (hc0 : 0 ≤ c) (hc1 : c < 16) (R : TV → List Ob → Prop)
    (hR : R (oneT (oneS (rd l (at_ + 1)) (oneS (rd l (at_ + 2)) (oneZ ((c * 64 + rd l (at_ + 1) - 128) * 64 + rd l (at_ + 2) - 128) 3)))) []) : ref02_one_L0 R (ints .u8 l) at_ c 3 1 := by
  have hb := rd_byte hl (at_ + 1)
  have hb2 := rd_byte hl (at_ + 2)
  refine one_step l hl hlen at_ 1 c 3 (by omega) (by omega) hc0 (by omega) _ R hR fun h1 h2 hR => ?_
  exact one_step l hl hlen at_ 2 _ 3 (by omega) hn (by omega) (by omega) _ R hR fun _ _ hR => one_end _ _ _ _ _ (by omega) R hR
theorem one_four (l : List Int) (hl : Bytes l) (hlen : l.length ≤ 140737488355328) (at_ : Nat) (c : Int) (hn : at_ + 3 < l.length) (hc0 : 0 ≤ c) (hc1 : c < 8) (R : TV → List Ob → Prop)
    (hR : R (oneT (oneS (rd l (at_ + 1)) (oneS (rd l (at_ + 2)) (oneS (rd l (at_ + 3)) (oneZ (((c * 64 + rd l (at_ + 1) - 128) * 64 + rd l (at_ + 2) - 128) * 64 + rd l (at_ + 3) - 128) 4))))) []) : ref02_one_L0 R (ints .u8 l) at_ c 4 1 := by
  have hb := rd_byte hl (at_ + 1)
  have hb2 := rd_byte hl (at_ + 2)
  have hb3 := rd_byte hl (at_ + 3)
  refine one_step l hl hlen at_ 1 c 4 (by omega) (by omega) hc0 (by omega) _ R hR fun h1 h2 hR => ?_
  refine one_step l hl hlen at_ 2 _ 4 (by omega) (by omega) (by omega) (by omega) _ R hR fun _ _ hR => ?_
  exact one_step l hl hlen at_ 3 _ 4 (by omega) hn (by omega) (by omega) _ R hR fun _ _ hR => one_end _ _ _ _ _ (by omega) R hR
theorem rd_dropN (l : List Int) (n i : Nat) : rd (l.drop n) i = rd l (n + i) := by
  unfold rd
  rw [List.getD_eq_getElem?_getD, List.getD_eq_getElem?_getD, List.getElem?_drop]
set_option maxHeartbeats 1000000 in
theorem one_head (l : List Int) (hl : Bytes l) (hlen : l.length ≤ 140737488355328) (at_ : Nat) (hat : at_ < l.length) (R : TV → List Ob → Prop) (hR : R (oneT (chN ((l.length : Int) - at_) (rd l at_) (rd l (at_ + 1)) (rd l (at_ + 2)) (rd l (at_ + 3)))) []) : ref02_one_H R (ints .u8 l) at_ := by
  unfold ref02_one_H
  have hb := rd_byte hl at_
  have hb1 := rd_byte hl (at_ + 1)
  have hb2 := rd_byte hl (at_ + 2)
  have hb3 := rd_byte hl (at_ + 3)
  have e2 : IntKind.wrap .i64 (rd l at_) = rd l at_ := w64 (by omega) (by omega)
  have f1 : IntKind.wrap .i64 (rd l at_ - 240) = rd l at_ - 240 := w64 (by omega) (by omega)
  have f2 : IntKind.wrap .i64 (rd l at_ - 224) = rd l at_ - 224 := w64 (by omega) (by omega)
  have f3 : IntKind.wrap .i64 (rd l at_ - 192) = rd l at_ - 192 := w64 (by omega) (by omega)
  have g1 : IntKind.wrap .i64 ((at_ : Int) + 1) = (at_ : Int) + 1 := w64 (by omega) (by omega)
  have g2 : IntKind.wrap .i64 ((at_ : Int) + 2) = (at_ : Int) + 2 := w64 (by omega) (by omega)
  have g3 : IntKind.wrap .i64 ((at_ : Int) + 3) = (at_ : Int) + 3 := w64 (by omega) (by omega)
  have g4 : IntKind.wrap .i64 ((at_ : Int) + 4) = (at_ : Int) + 4 := w64 (by omega) (by omega)
  have hg : (ints .u8 l)[at_]? = some [.int .u8 (rd l at_)] := by simp [ints, rd_at l _ hat, hat]
  rw [Int.toNat_natCast, ints_len]
  refine ⟨by omega, _, hg, ?_⟩
  rw [e2, f1, f2, f3, g1, g2, g3, g4]
  clear e2 f1 f2 f3 g1 g2 g3 g4 hg
  have k4 : 240 ≤ rd l at_ → rd l at_ < 248 → ((l.length : Int) < (at_ : Int) + 4 → R (oneT (0, 0)) []) ∧ (¬ (l.length : Int) < (at_ : Int) + 4 → ref02_one_L0 R (ints .u8 l) at_ (rd l at_ - 240) 4 1) := by
    intro c1 c2
    refine ⟨fun h => ?_, fun h => one_four l hl hlen at_ _ (by omega) (by omega) (by omega) _ ?_⟩
    · refine cast (congrArg (fun p => R (oneT p) []) ?_) hR
      unfold chN
      repeat' split
      all_goals first | rfl | (exfalso; omega)
    · refine cast (congrArg (fun p => R (oneT p) []) ?_) hR
      unfold oneS chN
      rw [oneZ_eq]
      repeat' split
      all_goals first | rfl | (exfalso; omega)
  have k3 : 224 ≤ rd l at_ → rd l at_ < 240 → ((l.length : Int) < (at_ : Int) + 3 → R (oneT (0, 0)) []) ∧ (¬ (l.length : Int) < (at_ : Int) + 3 → ref02_one_L0 R (ints .u8 l) at_ (rd l at_ - 224) 3 1) := by
    intro c1 c2
    refine ⟨fun h => ?_, fun h => one_three l hl hlen at_ _ (by omega) (by omega) (by omega) _ ?_⟩
    · refine cast (congrArg (fun p => R (oneT p) []) ?_) hR
      unfold chN
      repeat' split
      all_goals first | rfl | (exfalso; omega)
    · refine cast (congrArg (fun p => R (oneT p) []) ?_) hR
      unfold oneS chN
      rw [oneZ_eq]
      repeat' split
      all_goals first | rfl | (exfalso; omega)
  have k2 : 192 ≤ rd l at_ → rd l at_ < 224 → ((l.length : Int) < (at_ : Int) + 2 → R (oneT (0, 0)) []) ∧ (¬ (l.length : Int) < (at_ : Int) + 2 → ref02_one_L0 R (ints .u8 l) at_ (rd l at_ - 192) 2 1) := by
    intro c1 c2
    refine ⟨fun h => ?_, fun h => one_two l hl hlen at_ _ (by omega) (by omega) (by omega) _ ?_⟩
    · refine cast (congrArg (fun p => R (oneT p) []) ?_) hR
      unfold chN
      repeat' split
      all_goals first | rfl | (exfalso; omega)
    · refine cast (congrArg (fun p => R (oneT p) []) ?_) hR
      unfold oneS chN
      rw [oneZ_eq]
      repeat' split
      all_goals first | rfl | (exfalso; omega)
  have k1 : rd l at_ < 128 → ref02_one_L0 R (ints .u8 l) at_ (rd l at_) 1 1 := by
    intro c1
    refine one_end _ _ _ _ _ (by omega) _ (cast (congrArg (fun p => R (oneT p) []) ?_) hR)
    unfold chN
    rw [oneZ_eq]
    repeat' split
    all_goals first | rfl | (exfalso; omega)
  have k0 : ¬ rd l at_ < 128 → ¬ (192 ≤ rd l at_ ∧ rd l at_ < 248) → R (oneT (0, 0)) [] := by
    intro c1 c2
    refine cast (congrArg (fun p => R (oneT p) []) ?_) hR
    unfold chN
    repeat' split
    all_goals first | rfl | (exfalso; omega)
  repeat' first | (refine And.intro ?_ ?_) | (intro h; first | (have := of_decide_eq_true h; clear h; try (exfalso; omega)) | (have := of_decide_eq_false h; clear h; try (exfalso; omega)))
  all_goals first | exact (k4 (by omega) (by omega)).2 (by omega) | exact (k3 (by omega) (by omega)).2 (by omega) | exact (k2 (by omega) (by omega)).2 (by omega) | exact k1 (by omega) | exact k0 (by omega) (by omega) | exact (k4 (by omega) (by omega)).1 (by omega) | exact (k3 (by omega) (by omega)).1 (by omega) | exact (k2 (by omega) (by omega)).1 (by omega)
theorem one_ok (l : List Int) (hl : Bytes l) (hlen : l.length ≤ 140737488355328) (at_ : Nat) (hat : at_ < l.length) : Fn Tryz.prog 67 [fzS .u8 l, fzI .i64 at_] [] (oneT (ch1 (l.drop at_))) [] := by
  refine ref02_one_fn _ _ (one_head l hl hlen at_ hat _ ⟨?_, rfl⟩)
  unfold ch1
  rw [rd_dropN, rd_dropN, rd_dropN, rd_dropN, List.length_drop, show ((l.length - at_ : Nat) : Int) = (l.length : Int) - at_ by omega]; rfl
theorem chars_loop (l : List Int) (hl : Bytes l) (hlen : l.length ≤ 20000000000000) (R : TV → List Ob → Prop)
    (hok : (chars l).2 = -1 → R (.tup [(false, [.fz (.sl 1 (ints .i64 (chars l).1))]), (false, [.fz (.int .i64 (-1))])]) [])
    (hbad : (chars l).2 ≠ -1 → R (.tup [(false, [.fz (.sl 1 ([] : List (List FV)))]), (false, [.fz (.int .i64 (chars l).2)])]) []) :
    ∀ (f at_ : Nat) (acc : List Int), at_ ≤ l.length → l.length - at_ < f → acc.length ≤ at_ → chs f l at_ acc = chars l → ref02_Chars_L0 R (ints .u8 l) at_ (ints .i64 acc)
  | 0, at_, acc, h1, h2, h3, h4 => by omega
  | f + 1, at_, acc, h1, h2, h3, h4 => by
    refine ref02_Chars_l0 ?_
    unfold ref02_Chars_R0
    unfold chs at h4
    simp only [ints_len, ints_app, ints_snoc, ints_take, ints_drop, ints_set, ints_rep, ints_one, ex_rd, dec_t, dec_f, beq_t, beq_f, bne_t, bne_f, not_t, not_f, List.length_set, List.length_append, List.length_cons, List.length_nil, List.length_take, List.length_drop, List.length_replicate, Int.toNat_natCast, List.nil_append, Bool.not_true, Bool.not_false, Wk_nil, Wk_cons, wk1_same, wk1_f, and_true, true_and, Bool.false_eq_true, Bool.true_eq_false, false_implies, forall_const]
    by_cases hat : l.length ≤ at_
    · rw [if_pos hat] at h4
      refine ⟨fun h => by omega, fun _ => ?_⟩
      rw [← h4] at hok
      exact hok rfl
    · rw [if_neg hat] at h4
      have hne : l.drop at_ ≠ [] := fun e => by have := congrArg List.length e; simp at this; omega
      have hb := drop_bytes hl at_
      have hd := one_ok l hl (by omega) at_ (by omega)
      have hbd := ch1_bounds hb hne
      rw [List.length_drop] at hbd
      refine ⟨fun _ => ⟨_, _, hd, fun h0 => ?_, fun h0 => ?_⟩, fun h => by omega⟩
      · rw [if_pos h0] at h4
        rw [← h4] at hbad
        exact hbad (by simp only; omega)
      · rw [if_neg h0] at h4
        have ih := chars_loop l hl hlen R hok hbad f (at_ + (ch1 (l.drop at_)).2.toNat) (acc ++ [(ch1 (l.drop at_)).1]) (by omega) (by omega) (by rw [List.length_append, List.length_singleton]; omega) h4
        have e2 : IntKind.wrap .i64 ((at_ : Int) + (ch1 (l.drop at_)).2) = ((at_ + (ch1 (l.drop at_)).2.toNat : Nat) : Int) := by rw [w64 (by omega) (by omega)]; omega
        rw [e2]
        exact ⟨by omega, ih⟩
def chL (l : List Int) : List Int := if (chars l).2 = -1 then (chars l).1 else []
theorem rChars_ok (l : List Int) (h : Bytes l) (hlen : l.length ≤ 20000000000000) : Fn Tryz.prog 30 [fzS .u8 l] [] (.tup [(false, [.fz (.sl 1 (ints .i64 (chL l)))]), (false, [.fz (.int .i64 (chars l).2)])]) [] := by
  refine ref02_Chars_fn _ ?_
  unfold ref02_Chars_H chL
  refine chars_loop l h hlen _ (fun h2 => ?_) (fun h2 => ?_) (l.length + 1) 0 [] (by omega) (by omega) (by simp) rfl
  · rw [if_pos h2, h2]; exact ⟨rfl, rfl⟩
  · rw [if_neg h2]; exact ⟨rfl, rfl⟩
end Go.Proofs.YtejefchehdifhaaGreatDoor.Ev
end
section
set_option linter.unusedVariables false
set_option linter.unusedSimpArgs false
namespace Go.Proofs.YtejefchehdifhaaGreatDoor.Ev
open Go Go.RowKit
def blankB (c : Int) : Bool := decide (c = 9 ∨ c = 10 ∨ c = 13 ∨ c = 32)
def endsB (c : Int) : Bool := decide ((c = 9 ∨ c = 10 ∨ c = 13 ∨ c = 32) ∨ c = 40 ∨ c = 41 ∨ c = 59 ∨ c = 34 ∨ c = 39 ∨ c = 96 ∨ c = 44)
theorem uBlank_ok (c : Int) : Fn Tryz.prog 77 [fzI .i64 c] [] (fzB (blankB c)) [] := by
  refine utf_Blank_fn _ ?_
  unfold utf_Blank_H blankB
  simp only [beq_t, beq_f]
  refine ⟨fun h => ?_, fun h => ⟨fun h2 => ?_, fun h2 => ⟨fun h3 => ?_, fun h3 => ?_⟩⟩⟩
  · simp [h]
  · simp [h2]
  · simp [h3]
  · simp [h, h2, h3]
    rw [Bool.eq_iff_iff]; simp
theorem rBlank_ok (c : Int) : Fn Tryz.prog 39 [fzI .i64 c] [] (fzB (blankB c)) [] := by
  refine ref02_Blank_fn _ ?_
  unfold ref02_Blank_H blankB
  simp only [beq_t, beq_f]
  refine ⟨fun h => ?_, fun h => ⟨fun h2 => ?_, fun h2 => ⟨fun h3 => ?_, fun h3 => ?_⟩⟩⟩
  · simp [h]
  · simp [h2]
  · simp [h3]
  · simp [h, h2, h3]
    rw [Bool.eq_iff_iff]; simp
theorem IndexByte_fn (s : ByteArray) (c : Int) : Fn Tryz.prog 89 [.one (.fz (.str s)), fzI .u8 c] [] (fzI .i64 (Lib.indexByte s.data.toList c.toNat.toUInt8)) [] :=
  Fn.of_below [.str s, .int .u8 c] rfl rfl fun w hg => (Tryz.strings_IndexByte s c w).mono fun e w' ⟨h1, h2⟩ => ⟨h1, h2 ▸ Below.refl _ _⟩
set_option maxRecDepth 100000 in
theorem ends_tab : ∀ c : Fin 128, (decide (0 ≤ Lib.indexByte (ByteArray.mk #[40, 41, 59, 34, 39, 96, 44]).data.toList (c.val : Nat).toUInt8)) = decide ((c.val : Int) = 40 ∨ (c.val : Int) = 41 ∨ (c.val : Int) = 59 ∨ (c.val : Int) = 34 ∨ (c.val : Int) = 39 ∨ (c.val : Int) = 96 ∨ (c.val : Int) = 44) := by decide
theorem uEnds_ok (c : Int) : Fn Tryz.prog 51 [fzI .i64 c] [] (fzB (endsB c)) [] := by
  refine utf_Ends_fn _ ?_
  unfold utf_Ends_H endsB
  refine ⟨_, uBlank_ok c, ?_⟩
  unfold blankB
  simp only [dec_t, dec_f]
  refine ⟨fun h => ?_, fun h => ⟨fun h2 => ⟨fun h3 => ?_, fun h3 => ?_⟩, fun h2 => ?_⟩⟩
  · simp [h]
  · rw [wu8 (by omega) (by omega)]
    refine ⟨_, IndexByte_fn _ c, ?_⟩
    have := ends_tab ⟨c.toNat, by omega⟩
    simp only at this
    rw [this, show ((c.toNat : Nat) : Int) = c by omega]
    simp [h]
  · have : ¬ (c = 40 ∨ c = 41 ∨ c = 59 ∨ c = 34 ∨ c = 39 ∨ c = 96 ∨ c = 44) := by omega
    simp [h, this]
  · have : ¬ (c = 40 ∨ c = 41 ∨ c = 59 ∨ c = 34 ∨ c = 39 ∨ c = 96 ∨ c = 44) := by omega
    simp [h, this]
theorem rEnds_ok (c : Int) : Fn Tryz.prog 55 [fzI .i64 c] [] (fzB (endsB c)) [] := by
  refine ref02_Ends_fn _ ?_
  unfold ref02_Ends_H endsB
  refine ⟨_, rBlank_ok c, ?_⟩
  unfold blankB
  simp only [dec_t, dec_f, beq_t, beq_f]
  refine ⟨fun h => ?_, fun h => ⟨fun h2 => ?_, fun h2 => ⟨fun h3 => ?_, fun h3 => ⟨fun h4 => ?_, fun h4 => ⟨fun h5 => ?_, fun h5 => ⟨fun h6 => ?_, fun h6 => ⟨fun h7 => ?_, fun h7 => ?_⟩⟩⟩⟩⟩⟩⟩
  · simp [h]
  · simp [h2]
  · simp [h3]
  · simp [h4]
  · simp [h5]
  · simp [h6]
  · simp [h7]
  · simp [h, h2, h3, h4, h5, h6, h7]
    rw [Bool.eq_iff_iff]; simp
theorem ixEnds_loop (xs : List Int) (hl : xs.length ≤ 1000000000) :
    ∀ (d j : Nat), j + d = xs.length → (xs.take j).any endsB = false → ∃ n : Int, (decide (0 ≤ n) = xs.any endsB) ∧ ∀ R : TV → List Ob → Prop, R (fzI .i64 n) [] → ixEnds_L0 R (ints .i64 xs) j
  | 0, j, hj, h => by
    refine ⟨-1, ?_, fun R hR => ixEnds_l0 ?_⟩
    · rw [List.take_of_length_le (by omega)] at h
      rw [h]; simp
    · unfold ixEnds_R0
      rw [ints_len, dec_t, dec_f]
      exact ⟨fun h => by omega, fun _ => hR⟩
  | d + 1, j, hj, h => by
    have hF := uEnds_ok (rd xs j)
    have hg : (ints .i64 xs)[j]? = some [.int .i64 (rd xs j)] := by simp [ints, rd_at xs j (by omega), show j < xs.length by omega]
    by_cases hpx : endsB (rd xs j) = true
    · refine ⟨j, ?_, fun R hR => ixEnds_l0 ?_⟩
      · have : xs.any endsB = true := List.any_eq_true.2 ⟨_, List.getElem_mem (show j < xs.length by omega), by rw [← rd_at xs j (by omega)]; exact hpx⟩
        rw [this]; simp
      · unfold ixEnds_R0
        rw [ints_len, dec_t, dec_f]
        refine ⟨fun _ => ⟨by omega, _, hg, _, hF, fun _ => hR, fun h => ?_⟩, fun h => by omega⟩
        rw [hpx] at h; cases h
    · obtain ⟨q, h1, h2⟩ := ixEnds_loop xs hl d (j + 1) (by omega) (by
        rw [List.take_succ_eq_append_getElem (by omega), List.any_append, h, ← rd_at xs j (by omega)]
        simpa using hpx)
      refine ⟨q, h1, fun R hR => ixEnds_l0 ?_⟩
      unfold ixEnds_R0
      have e : IntKind.wrap .i64 ((j : Int) + 1) = ((j + 1 : Nat) : Int) := w64 (by omega) (by omega)
      rw [ints_len, dec_t, dec_f, e]
      refine ⟨fun _ => ⟨by omega, _, hg, _, hF, fun h => absurd h hpx, fun _ => h2 R hR⟩, fun h => by omega⟩
theorem anyEnds_ok (xs : List Int) (hl : xs.length ≤ 1000000000) :
    Fn Tryz.prog 50 [fzS .i64 xs, .one (.fz (.fn 51 []))] [] (fzB (xs.any endsB)) [] := by
  obtain ⟨n, h1, h2⟩ := ixEnds_loop xs hl xs.length 0 (by omega) (by simp)
  refine slices_ContainsFunc_int_int_fn _ _ ?_
  unfold slices_ContainsFunc_int_int_H
  exact ⟨n, ixEnds_fn _ (h2 _ ⟨rfl, rfl⟩), by rw [h1], rfl⟩
def digB (T : List Int) (i : Nat) : Bool := decide (i < T.length ∧ 48 ≤ rd T i ∧ rd T i ≤ 57)
theorem tdigit_ok (T : List Int) (hT : Bytes T) (i : Nat) : Fn Tryz.prog 52 [.one (.fz (.str (bytesOf T))), fzI .i64 i] [] (fzB (digB T i)) [] := by
  refine token_digit_fn _ _ ?_
  unfold token_digit_H digB
  rw [size_of, dec_t, dec_f, Int.toNat_natCast]
  refine ⟨fun h => ?_, fun h => ?_⟩
  · have hi : i < T.length := by omega
    obtain ⟨c, hc, hcn⟩ := byte_at hT hi
    refine ⟨by omega, c, hc, ?_⟩
    rw [hcn, dec_t, dec_f]
    refine ⟨fun h2 => ⟨by omega, c, hc, ?_⟩, fun h2 => ?_⟩
    · rw [hcn]; simp [hi, h2]
    · have : ¬ (i < T.length ∧ 48 ≤ rd T i ∧ rd T i ≤ 57) := by omega
      simp [this]
  · have : ¬ (i < T.length ∧ 48 ≤ rd T i ∧ rd T i ≤ 57) := by omega
    simp [this]
theorem rdigit_ok (T : List Int) (hT : Bytes T) (i : Nat) : Fn Tryz.prog 54 [.one (.fz (.str (bytesOf T))), fzI .i64 i] [] (fzB (digB T i)) [] := by
  refine ref02_digit_fn _ _ ?_
  unfold ref02_digit_H digB
  rw [size_of, dec_t, dec_f, Int.toNat_natCast]
  refine ⟨fun h => ?_, fun h => ?_⟩
  · have hi : i < T.length := by omega
    obtain ⟨c, hc, hcn⟩ := byte_at hT hi
    refine ⟨by omega, c, hc, ?_⟩
    rw [hcn, dec_t, dec_f]
    refine ⟨fun h2 => ⟨by omega, c, hc, ?_⟩, fun h2 => ?_⟩
    · rw [hcn]; simp [hi, h2]
    · have : ¬ (i < T.length ∧ 48 ≤ rd T i ∧ rd T i ≤ 57) := by omega
      simp [this]
  · have : ¬ (i < T.length ∧ 48 ≤ rd T i ∧ rd T i ≤ 57) := by omega
    simp [this]
theorem hasPref (T : List Int) (hT : Bytes T) (c : Nat) (hc : c < 256) : Lib.hasPrefix (bytesOf T).data.toList [UInt8.ofNat c] = decide (T.head? = some (c : Int)) := by
  rw [data_of]
  cases T with
  | nil => simp [Lib.hasPrefix]
  | cons x T =>
    have hx := hT x List.mem_cons_self
    have h3 := u8_back hx.1 hx.2
    have hcc : (UInt8.ofNat c).toNat = c := by rw [UInt8.toNat_ofNat']; omega
    unfold Lib.hasPrefix
    rw [Bool.eq_iff_iff]
    simp [← UInt8.toNat_inj]
    omega
theorem HasPrefix_fn (s p : ByteArray) : Fn Tryz.prog 49 [.one (.fz (.str s)), .one (.fz (.str p))] [] (fzB (Lib.hasPrefix s.data.toList p.data.toList)) [] :=
  Fn.of_below [.str s, .str p] rfl rfl fun w hg => (Tryz.strings_HasPrefix s p w).mono fun e w' ⟨h1, h2⟩ => ⟨h1, h2 ▸ Below.refl _ _⟩
def symP (T : List Int) : Prop := T ≠ [] ∧ T ≠ [46] ∧ T.length ≤ 64 ∧ (chars T).2 = -1 ∧ (chars T).1.any endsB = false ∧ rd T 0 ≠ 35 ∧ digB T 0 = false ∧ ¬ ((rd T 0 = 43 ∨ rd T 0 = 45) ∧ digB T 1 = true)
def trueP (T : List Int) : Prop := T = [35, 116] ∨ T = [35, 116, 114, 117, 101]
def falseP (T : List Int) : Prop := T = [35, 102] ∨ T = [35, 102, 97, 108, 115, 101]
instance (T : List Int) : Decidable (symP T) := by unfold symP; infer_instance
instance (T : List Int) : Decidable (trueP T) := by unfold trueP; infer_instance
instance (T : List Int) : Decidable (falseP T) := by unfold falseP; infer_instance
abbrev atT (k : Int) (t : ByteArray) (n : Bool) (l : List Int) (b : Bool) : TV := .tup [(true, [.fz (.int .i64 k), .fz (.str t), .fz (.bool n), .fz (.sl 1 (ints .u32 l)), .fz (.sl 6 ([] : List (List FV))), .fz (.int .i64 0)]), (false, [.fz (.bool b)])]
def atomK (T : List Int) : Int := if trueP T then 8 else if falseP T then 9 else if ptB (pRest T) = true then 7 else if symP T then 4 else 0
def atomS (T : List Int) : List Int := if atomK T = 4 then T else []
def atomN (T : List Int) : Bool := if atomK T = 7 then ptS (pNeg T) (pRest T) else false
def atomL (T : List Int) : List Int := if atomK T = 7 then ptL (pRest T) else []
abbrev atomT (T : List Int) : TV := atT (atomK T) (bytesOf (atomS T)) (atomN T) (atomL T) (decide (atomK T ≠ 0))
theorem atomT_8 {T : List Int} (h : trueP T) : atomT T = atT 8 (ByteArray.mk #[]) false [] true := by
  have : atomK T = 8 := if_pos h
  unfold atomT atomS atomN atomL; rw [this]; rfl
theorem atomT_9 {T : List Int} (h : falseP T) : atomT T = atT 9 (ByteArray.mk #[]) false [] true := by
  have h1 : ¬ trueP T := by
    unfold trueP falseP at *
    rcases h with rfl | rfl <;> simp
  have : atomK T = 9 := by unfold atomK; rw [if_neg h1, if_pos h]
  unfold atomT atomS atomN atomL; rw [this]; rfl
theorem atomT_7 {T : List Int} (h1 : ¬ trueP T) (h2 : ¬ falseP T) (h3 : ptB (pRest T) = true) : atomT T = atT 7 (ByteArray.mk #[]) (ptS (pNeg T) (pRest T)) (ptL (pRest T)) true := by
  have : atomK T = 7 := by unfold atomK; rw [if_neg h1, if_neg h2, if_pos h3]
  unfold atomT atomS atomN atomL; rw [this]; rfl
theorem atomT_4 {T : List Int} (h1 : ¬ trueP T) (h2 : ¬ falseP T) (h3 : ptB (pRest T) = false) (h4 : symP T) : atomT T = atT 4 (bytesOf T) false [] true := by
  have : atomK T = 4 := by unfold atomK; rw [if_neg h1, if_neg h2, if_neg (by rw [h3]; simp), if_pos h4]
  unfold atomT atomS atomN atomL; rw [this]; rfl
theorem atomT_0 {T : List Int} (h1 : ¬ trueP T) (h2 : ¬ falseP T) (h3 : ptB (pRest T) = false) (h4 : ¬ symP T) : atomT T = atT 0 (ByteArray.mk #[]) false [] false := by
  have : atomK T = 0 := by unfold atomK; rw [if_neg h1, if_neg h2, if_neg (by rw [h3]; simp), if_neg h4]
  unfold atomT atomS atomN atomL; rw [this]; rfl
theorem decE_small {T : List Int} (h : ¬ 64 < T.length) : (decE T ≠ 0 ↔ (chars T).2 ≠ -1) ∧ ((chars T).2 = -1 → decL T = (chars T).1) := by
  unfold decE decL
  have hn : ¬ 65536 < T.length := by omega
  simp only [if_neg hn]
  by_cases h2 : (chars T).2 = -1
  · simp [h2]
  · simp [h2]
theorem chs_len : ∀ (f at_ : Nat) (l acc : List Int), (chs f l at_ acc).1.length ≤ acc.length + f
  | 0, at_, l, acc => by simp [chs]
  | f + 1, at_, l, acc => by
    unfold chs
    split
    · simp only; omega
    · split
      · simp
      · have := chs_len f (at_ + (ch1 (l.drop at_)).2.toNat) l (acc ++ [(ch1 (l.drop at_)).1])
        simp only [List.length_append, List.length_singleton] at this
        omega
theorem chars_len (l : List Int) : (chars l).1.length ≤ l.length + 1 := by
  have := chs_len (l.length + 1) 0 l []
  unfold chars
  simpa using this
end Go.Proofs.YtejefchehdifhaaGreatDoor.Ev
end
section
set_option linter.unusedVariables false
set_option linter.unusedSimpArgs false
namespace Go.Proofs.YtejefchehdifhaaGreatDoor.Ev
open Go Go.RowKit
theorem atom_eqs {T : List Int} (hT : Bytes T) :
    ((ByteArray.toList (bytesOf T)) == (ByteArray.toList (ByteArray.mk #[35, 116]))) = decide (T = [35, 116]) ∧ ((ByteArray.toList (bytesOf T)) == (ByteArray.toList (ByteArray.mk #[35, 116, 114, 117, 101]))) = decide (T = [35, 116, 114, 117, 101]) ∧
    ((ByteArray.toList (bytesOf T)) == (ByteArray.toList (ByteArray.mk #[35, 102]))) = decide (T = [35, 102]) ∧ ((ByteArray.toList (bytesOf T)) == (ByteArray.toList (ByteArray.mk #[35, 102, 97, 108, 115, 101]))) = decide (T = [35, 102, 97, 108, 115, 101]) ∧
    ((ByteArray.toList (bytesOf T)) == (ByteArray.toList (ByteArray.mk #[]))) = decide (T = []) ∧ ((ByteArray.toList (bytesOf T)) == (ByteArray.toList (ByteArray.mk #[46]))) = decide (T = [46]) := by
  have b : ∀ l : List Int, (∀ x ∈ l, 0 ≤ x ∧ x < 256) → Bytes l := fun l h => h
  refine ⟨eq_bytes (m := [35, 116]) hT (b _ (by decide)), eq_bytes (m := [35, 116, 114, 117, 101]) hT (b _ (by decide)), eq_bytes (m := [35, 102]) hT (b _ (by decide)), eq_bytes (m := [35, 102, 97, 108, 115, 101]) hT (b _ (by decide)), eq_bytes (m := []) hT (b _ (by decide)), eq_bytes (m := [46]) hT (b _ (by decide))⟩
theorem byte0 {T : List Int} (hT : Bytes T) (hne : T ≠ []) : ∃ c : UInt8, (ByteArray.data (bytesOf T))[Int.toNat 0]? = some c ∧ ((c.toNat : Nat) : Int) = rd T 0 :=
  byte_at hT (List.length_pos_iff.2 hne)
theorem head_rd {T : List Int} (hne : T ≠ []) (c : Int) : (T.head? = some c) ↔ rd T 0 = c := by
  cases T with
  | nil => exact absurd rfl hne
  | cons x T => simp [rd]
set_option maxHeartbeats 1000000 in
theorem tAtom_ok (T : List Int) (hT : Bytes T) (hlen : T.length ≤ 16777216) : Fn Tryz.prog 15 [.one (.fz (.str (bytesOf T)))] [] (atomT T) [] := by
  refine token_Atom_fn _ ?_
  obtain ⟨R, hR, hRe⟩ : ∃ R : TV → List Ob → Prop, R (atomT T) [] ∧ (fun r' h' => r' = atomT T ∧ h' = []) = R := ⟨_, ⟨rfl, rfl⟩, rfl⟩
  rw [hRe]
  clear hRe
  unfold token_Atom_H
  obtain ⟨e1, e2, e3, e4, e5, e6⟩ := atom_eqs hT
  rw [map_bs, bs_of hT, e1, e2, e3, e4, e5, e6, size_of]
  clear e1 e2 e3 e4 e5 e6
  refine ⟨fun h => ?_, fun h1 => ⟨fun h => ?_, fun h2 => ⟨fun h => ?_, fun h3 => ⟨fun h => ?_, fun h4 => ?_⟩⟩⟩⟩
  · rw [atomT_8 (.inl (of_decide_eq_true h))] at hR; exact hR
  · rw [atomT_8 (.inr (of_decide_eq_true h))] at hR; exact hR
  · rw [atomT_9 (.inl (of_decide_eq_true h))] at hR; exact hR
  · rw [atomT_9 (.inr (of_decide_eq_true h))] at hR; exact hR
  have g1 : ¬ trueP T := fun h => h.elim (of_decide_eq_false h1) (of_decide_eq_false h2)
  have g2 : ¬ falseP T := fun h => h.elim (of_decide_eq_false h3) (of_decide_eq_false h4)
  refine ⟨_, _, _, parse_ok T hT (by omega), fun h => ?_, fun h5 => ?_⟩
  · rw [atomT_7 g1 g2 h] at hR; exact hR
  have hS : symP T → R (atT 4 (bytesOf T) false [] true) [] := fun h => by rw [atomT_4 g1 g2 h5 h] at hR; exact hR
  have hN : ¬ symP T → R (atT 0 (ByteArray.mk #[]) false [] false) [] := fun h => by rw [atomT_0 g1 g2 h5 h] at hR; exact hR
  clear hR
  refine ⟨_, _, _, utfDecode_ok T hT, ?_⟩
  have p1 := HasPrefix_fn (bytesOf T) (ByteArray.mk #[43])
  have p2 := HasPrefix_fn (bytesOf T) (ByteArray.mk #[45])
  rw [show (ByteArray.mk #[43]).data.toList = [UInt8.ofNat 43] from rfl, hasPref T hT 43 (by omega)] at p1
  rw [show (ByteArray.mk #[45]).data.toList = [UInt8.ofNat 45] from rfl, hasPref T hT 45 (by omega)] at p2
  have rest : ∀ (sg : Bool), (T ≠ [] → (sg = true ↔ (rd T 0 = 43 ∨ rd T 0 = 45))) →
      (decide (T = []) = true → R (atT 0 (ByteArray.mk #[]) false [] false) []) ∧ (decide (T = []) = false →
      (decide (T = [46]) = true → R (atT 0 (ByteArray.mk #[]) false [] false) []) ∧ (decide (T = [46]) = false →
      (decide ((64 : Int) < ((T.length : Nat) : Int)) = true → R (atT 0 (ByteArray.mk #[]) false [] false) []) ∧ (decide ((64 : Int) < ((T.length : Nat) : Int)) = false →
      ((decE T != 0) = true → R (atT 0 (ByteArray.mk #[]) false [] false) []) ∧ ((decE T != 0) = false →
      ∃ b17 : Bool, Fn Tryz.prog 50 [fzS .i64 (decL T), .one (.fz (.fn 51 []))] [] (fzB b17) [] ∧
      (b17 = true → R (atT 0 (ByteArray.mk #[]) false [] false) []) ∧ (b17 = false → (0 : Int) ≤ 0 ∧ ∃ c2 : UInt8, (ByteArray.data (bytesOf T))[Int.toNat 0]? = some c2 ∧
      (((((UInt8.toNat c2) : Nat) : Int) == 35) = true → R (atT 0 (ByteArray.mk #[]) false [] false) []) ∧ (((((UInt8.toNat c2) : Nat) : Int) == 35) = false →
      ∃ b18 : Bool, Fn Tryz.prog 52 [.one (.fz (.str (bytesOf T))), fzI .i64 0] [] (fzB b18) [] ∧
      (b18 = true → R (atT 0 (ByteArray.mk #[]) false [] false) []) ∧ (b18 = false →
      (sg = true → ∃ b19 : Bool, Fn Tryz.prog 52 [.one (.fz (.str (bytesOf T))), fzI .i64 1] [] (fzB b19) [] ∧ (b19 = true → R (atT 0 (ByteArray.mk #[]) false [] false) []) ∧ (b19 = false → R (atT 4 (bytesOf T) false [] true) [])) ∧
      (sg = false → R (atT 4 (bytesOf T) false [] true) [])))))))) := by
    intro sg hsg
    refine ⟨fun h => hN fun hs => hs.1 (of_decide_eq_true h), fun h => ?_⟩
    have hne : T ≠ [] := of_decide_eq_false h
    refine ⟨fun h => hN fun hs => hs.2.1 (of_decide_eq_true h), fun h6 => ⟨fun h => hN fun hs => ?_, fun h => ?_⟩⟩
    · have := of_decide_eq_true h
      have := hs.2.2.1
      omega
    have hl : ¬ 64 < T.length := by have := of_decide_eq_false h; omega
    obtain ⟨d1, d2⟩ := decE_small hl
    rw [bne_t, bne_f]
    refine ⟨fun h => hN fun hs => (d1.1 h) hs.2.2.2.1, fun h => ?_⟩
    have hc : (chars T).2 = -1 := by
      by_cases hc : (chars T).2 = -1
      · exact hc
      · exact absurd h (d1.2 hc)
    have hcl := chars_len T
    rw [d2 hc]
    refine ⟨_, anyEnds_ok _ (by omega), fun h => hN fun hs => ?_, fun h7 => ⟨by omega, ?_⟩⟩
    · have := hs.2.2.2.2.1
      rw [h] at this; cases this
    obtain ⟨c, hcc, hcn⟩ := byte0 hT hne
    refine ⟨c, hcc, ?_⟩
    rw [hcn, beq_t, beq_f]
    refine ⟨fun h => hN fun hs => hs.2.2.2.2.2.1 h, fun h8 => ⟨_, tdigit_ok T hT 0, fun h => hN fun hs => ?_, fun h9 => ⟨fun h => ⟨_, tdigit_ok T hT 1, fun h2 => hN fun hs => ?_, fun h2 => hS ?_⟩, fun h => hS ?_⟩⟩⟩
    · have := hs.2.2.2.2.2.2.1
      rw [h] at this; cases this
    · exact hs.2.2.2.2.2.2.2 ⟨(hsg hne).1 h, h2⟩
    · exact ⟨hne, of_decide_eq_false h6, by omega, hc, h7, h8, h9, fun hx => by rw [hx.2] at h2; cases h2⟩
    · exact ⟨hne, of_decide_eq_false h6, by omega, hc, h7, h8, h9, fun hx => by rw [(hsg hne).2 hx.1] at h; cases h⟩
  refine ⟨_, p1, fun h => ?_, fun h => ⟨_, p2, ?_⟩⟩
  · obtain ⟨r1, r2⟩ := rest true (fun hne => ⟨fun _ => .inl ((head_rd hne _).1 (of_decide_eq_true h)), fun _ => rfl⟩)
    refine ⟨r1, fun k1 => ⟨(r2 k1).1, fun k2 => ⟨((r2 k1).2 k2).1, fun k3 => ⟨(((r2 k1).2 k2).2 k3).1, fun k4 => ?_⟩⟩⟩⟩
    obtain ⟨b, q1, q2, q3⟩ := (((r2 k1).2 k2).2 k3).2 k4
    refine ⟨b, q1, q2, fun k5 => ?_⟩
    obtain ⟨q4, c, q5, q6, q7⟩ := q3 k5
    refine ⟨q4, c, q5, q6, fun k6 => ?_⟩
    obtain ⟨b, q8, q9, q10⟩ := q7 k6
    exact ⟨b, q8, q9, fun k7 => (q10 k7).1 rfl⟩
  · have hs : ∀ hne : T ≠ [], (decide (T.head? = some ((45 : Nat) : Int)) = true ↔ (rd T 0 = 43 ∨ rd T 0 = 45)) := fun hne => by
      rw [decide_eq_true_eq, head_rd hne]
      have := of_decide_eq_false h
      rw [head_rd hne] at this
      omega
    exact rest _ hs
theorem drop_rd' (l : List Int) (j : Nat) (h : j < l.length) : l.drop j = rd l j :: l.drop (j + 1) := by
  rw [rd_at l j h]; exact List.drop_eq_getElem_cons h
theorem chL_eq (T : List Int) (h : (chars T).2 = -1) : chL T = (chars T).1 := if_pos h
theorem chs_bad : ∀ (f at_ : Nat) (l acc : List Int), (chs f l at_ acc).2 = -1 ∨ 0 ≤ (chs f l at_ acc).2
  | 0, at_, l, acc => by simp [chs]
  | f + 1, at_, l, acc => by
    unfold chs
    split
    · simp
    · split
      · right; simp only; omega
      · exact chs_bad f _ l _
theorem rAtom_loop (T : List Int) (xs : List Int) (hl : xs.length ≤ 1000000000) (R : TV → List Ob → Prop) (hS : xs.any endsB = false → R (atT 4 (bytesOf T) false [] true) []) (hN : xs.any endsB = true → R (atT 0 (ByteArray.mk #[]) false [] false) []) :
    ∀ (d j : Nat), j + d = xs.length → xs.any endsB = (xs.drop j).any endsB → ref02_Atom_L0 R (bytesOf T) (ints .i64 xs) j
  | 0, j, hj, h => by
    refine ref02_Atom_l0 ?_
    unfold ref02_Atom_R0
    rw [ints_len, dec_t, dec_f]
    refine ⟨fun h => by omega, fun _ => hS ?_⟩
    rw [h, List.drop_of_length_le (by omega)]; rfl
  | d + 1, j, hj, h => by
    have hF := rEnds_ok (rd xs j)
    have hg : (ints .i64 xs)[j]? = some [.int .i64 (rd xs j)] := by simp [ints, rd_at xs j (by omega), show j < xs.length by omega]
    refine ref02_Atom_l0 ?_
    unfold ref02_Atom_R0
    have e : IntKind.wrap .i64 ((j : Int) + 1) = ((j + 1 : Nat) : Int) := w64 (by omega) (by omega)
    rw [ints_len, dec_t, dec_f, e]
    rw [drop_rd' xs j (by omega), List.any_cons] at h
    refine ⟨fun _ => ⟨by omega, _, hg, _, hF, fun h1 => hN (by rw [h, h1, Bool.true_or]), fun h1 => ?_⟩, fun h => by omega⟩
    exact rAtom_loop T xs hl R hS hN d (j + 1) (by omega) (by rw [h, h1, Bool.false_or])
set_option maxHeartbeats 1000000 in
theorem rAtom_ok (T : List Int) (hT : Bytes T) (hlen : T.length ≤ 16777216) : Fn Tryz.prog 16 [.one (.fz (.str (bytesOf T)))] [] (atomT T) [] := by
  refine ref02_Atom_fn _ ?_
  obtain ⟨R, hR, hRe⟩ : ∃ R : TV → List Ob → Prop, R (atomT T) [] ∧ (fun r' h' => r' = atomT T ∧ h' = []) = R := ⟨_, ⟨rfl, rfl⟩, rfl⟩
  rw [hRe]
  clear hRe
  unfold ref02_Atom_H
  obtain ⟨e1, e2, e3, e4, e5, e6⟩ := atom_eqs hT
  rw [map_bs, bs_of hT, e1, e2, e3, e4, e6, size_of]
  clear e1 e2 e3 e4 e5 e6
  refine ⟨fun h => ?_, fun h1 => ⟨fun h => ?_, fun h2 => ⟨fun h => ?_, fun h3 => ⟨fun h => ?_, fun h4 => ?_⟩⟩⟩⟩
  · rw [atomT_8 (.inl (of_decide_eq_true h))] at hR; exact hR
  · rw [atomT_8 (.inr (of_decide_eq_true h))] at hR; exact hR
  · rw [atomT_9 (.inl (of_decide_eq_true h))] at hR; exact hR
  · rw [atomT_9 (.inr (of_decide_eq_true h))] at hR; exact hR
  have g1 : ¬ trueP T := fun h => h.elim (of_decide_eq_false h1) (of_decide_eq_false h2)
  have g2 : ¬ falseP T := fun h => h.elim (of_decide_eq_false h3) (of_decide_eq_false h4)
  refine ⟨_, _, _, rparse_ok T hT (by omega), fun h => ?_, fun h5 => ?_⟩
  · rw [atomT_7 g1 g2 h] at hR; exact hR
  have hS : symP T → R (atT 4 (bytesOf T) false [] true) [] := fun h => by rw [atomT_4 g1 g2 h5 h] at hR; exact hR
  have hN : ¬ symP T → R (atT 0 (ByteArray.mk #[]) false [] false) [] := fun h => by rw [atomT_0 g1 g2 h5 h] at hR; exact hR
  clear hR
  refine ⟨fun h => hN fun hs => ?_, fun h => ?_⟩
  · have h1 := of_decide_eq_true h
    have := List.length_pos_iff.2 hs.1
    omega
  have hne : T ≠ [] := by
    have h1 := of_decide_eq_false h
    exact List.length_pos_iff.1 (by omega)
  refine ⟨fun h => hN fun hs => ?_, fun h => ?_⟩
  · have := of_decide_eq_true h
    have := hs.2.2.1
    omega
  have hl : ¬ 64 < T.length := by have := of_decide_eq_false h; omega
  refine ⟨fun h => hN fun hs => hs.2.1 (of_decide_eq_true h), fun h6 => ⟨by omega, ?_⟩⟩
  obtain ⟨c, hcc, hcn⟩ := byte0 hT hne
  refine ⟨c, hcc, ?_⟩
  rw [hcn, beq_t, beq_f]
  refine ⟨fun h => hN fun hs => hs.2.2.2.2.2.1 h, fun h8 => ⟨_, rdigit_ok T hT 0, fun h => hN fun hs => ?_, fun h9 => ⟨by omega, c, hcc, ?_⟩⟩⟩
  · have := hs.2.2.2.2.2.2.1
    rw [h] at this; cases this
  rw [hcn, beq_t, beq_f]
  have last : ¬ ((rd T 0 = 43 ∨ rd T 0 = 45) ∧ digB T 1 = true) → (decide ((0 : Int) ≤ (chars T).2) = true → R (atT 0 (ByteArray.mk #[]) false [] false) []) ∧ (decide ((0 : Int) ≤ (chars T).2) = false → ref02_Atom_L0 R (bytesOf T) (ints .i64 (chL T)) 0) := by
    intro hsg
    refine ⟨fun h => hN fun hs => ?_, fun h => ?_⟩
    · have h1 := of_decide_eq_true h
      have := hs.2.2.2.1
      omega
    · have h1 := of_decide_eq_false h
      have hc : (chars T).2 = -1 := by
        rcases chs_bad (T.length + 1) 0 T [] with h2 | h2
        · exact h2
        · exact absurd h2 h1
      rw [chL_eq T hc]
      have hcl := chars_len T
      refine rAtom_loop T _ (by omega) R (fun h7 => hS ⟨hne, of_decide_eq_false h6, by omega, hc, h7, h8, h9, hsg⟩) (fun h7 => hN fun hs => ?_) (chars T).1.length 0 (by omega) rfl
      have := hs.2.2.2.2.1
      rw [h7] at this; cases this
  refine ⟨fun h => ⟨_, rdigit_ok T hT 1, fun h2 => hN fun hs => hs.2.2.2.2.2.2.2 ⟨.inl h, h2⟩, fun h2 => ⟨_, _, rChars_ok T hT (by omega), last fun hx => by rw [hx.2] at h2; cases h2⟩⟩, fun h43 => ⟨by omega, c, hcc, ?_⟩⟩
  rw [hcn, beq_t, beq_f]
  refine ⟨fun h => ⟨_, rdigit_ok T hT 1, fun h2 => hN fun hs => hs.2.2.2.2.2.2.2 ⟨.inr h, h2⟩, fun h2 => ⟨_, _, rChars_ok T hT (by omega), last fun hx => by rw [hx.2] at h2; cases h2⟩⟩, fun h45 => ⟨_, _, rChars_ok T hT (by omega), last fun hx => hx.1.elim h43 h45⟩⟩
end Go.Proofs.YtejefchehdifhaaGreatDoor.Ev
end
section
set_option linter.unusedVariables false
set_option maxRecDepth 100000
namespace Go.Proofs.YtejefchehdifhaaGreatDoor.Ev
open Go
def unicode_utf8_ValidRune_lv : List Nat → Keep := lvOf []
def unicode_utf8_ValidRune_H (R : TV → List Ob → Prop) (r_ : Int) : Prop :=
  ((((decide ((0 : Int) ≤ r_)) = true) → ((((decide (r_ < 55296)) = true) → (R (TV.one (AV.fz (FV.bool true))) [])) ∧ (((decide (r_ < 55296)) = false) → ((((decide ((57343 : Int) < r_)) = true) → ((((decide (r_ ≤ 1114111)) = true) → (R (TV.one (AV.fz (FV.bool true))) [])) ∧ (((decide (r_ ≤ 1114111)) = false) → (R (TV.one (AV.fz (FV.bool false))) [])))) ∧ (((decide ((57343 : Int) < r_)) = false) → (R (TV.one (AV.fz (FV.bool false))) [])))))) ∧ (((decide ((0 : Int) ≤ r_)) = false) → ((((decide ((57343 : Int) < r_)) = true) → ((((decide (r_ ≤ 1114111)) = true) → (R (TV.one (AV.fz (FV.bool true))) [])) ∧ (((decide (r_ ≤ 1114111)) = false) → (R (TV.one (AV.fz (FV.bool false))) [])))) ∧ (((decide ((57343 : Int) < r_)) = false) → (R (TV.one (AV.fz (FV.bool false))) [])))))
theorem unicode_utf8_ValidRune_fn (r_ : Int) {r : TV} {h : List Ob} (H : unicode_utf8_ValidRune_H (fun r' h' => r' = r ∧ h' = h) r_) : Fn Tryz.prog 75 [(TV.one (AV.fz (FV.int .i32 r_)))] [] r h :=
  Fn.by_tr (M := (modeOf [] [])) (lv := unicode_utf8_ValidRune_lv) (own := none) (F := Tryz.f75) (by kernel_rfl) (by kernel_rfl) (by first | decide | simp) (fun _ _ h => h) (by kernel_rfl) H
end Go.Proofs.YtejefchehdifhaaGreatDoor.Ev
end
section
set_option linter.unusedVariables false
set_option maxRecDepth 100000
namespace Go.Proofs.YtejefchehdifhaaGreatDoor.Ev
open Go
def utf_Scalar_lv : List Nat → Keep := lvOf []
def utf_Scalar_H (R : TV → List Ob → Prop) (c : Int) : Prop :=
  ((((decide ((0 : Int) ≤ c)) = true) → ((((decide (c ≤ 1114111)) = true) → (∃ b1 : Bool, ((Fn Tryz.prog 75 [(TV.one (AV.fz (FV.int .i32 (IntKind.wrap .i32 c))))] [] (TV.one (AV.fz (FV.bool b1))) []) ∧ (R (TV.one (AV.fz (FV.bool b1))) [])))) ∧ (((decide (c ≤ 1114111)) = false) → (R (TV.one (AV.fz (FV.bool false))) [])))) ∧ (((decide ((0 : Int) ≤ c)) = false) → (R (TV.one (AV.fz (FV.bool false))) [])))
theorem utf_Scalar_fn (c : Int) {r : TV} {h : List Ob} (H : utf_Scalar_H (fun r' h' => r' = r ∧ h' = h) c) : Fn Tryz.prog 33 [(TV.one (AV.fz (FV.int .i64 c)))] [] r h :=
  Fn.by_tr (M := (modeOf [] [])) (lv := utf_Scalar_lv) (own := none) (F := Tryz.f33) (by kernel_rfl) (by kernel_rfl) (by first | decide | simp) (fun _ _ h => h) (by kernel_rfl) H
end Go.Proofs.YtejefchehdifhaaGreatDoor.Ev
end
section
set_option linter.unusedVariables false
set_option linter.unusedSimpArgs false
namespace Go.Proofs.YtejefchehdifhaaGreatDoor.Ev
open Go
theorem ValidRune_ok (c : Int) : Fn Tryz.prog 75 [fzI .i32 c] [] (fzB (scalB c)) [] := by
  refine unicode_utf8_ValidRune_fn _ ?_
  obtain ⟨R, hR, hRe⟩ := exR (fzB (scalB c)); rw [hRe]; clear hRe
  have fin : ∀ b, b = scalB c → R (fzB b) [] := fun b h => by rw [h]; exact hR
  unfold unicode_utf8_ValidRune_H
  simp only [dec_t, dec_f]
  unfold scalB at fin
  refine ⟨fun h0 => ⟨fun h1 => fin _ ?_, fun h1 => ⟨fun h2 => ⟨fun h3 => fin _ ?_, fun h3 => fin _ ?_⟩, fun h2 => fin _ ?_⟩⟩, fun h0 => ⟨fun h2 => ⟨fun h3 => fin _ ?_, fun h3 => fin _ ?_⟩, fun h2 => fin _ ?_⟩⟩
  · simp; omega
  · simp; omega
  · simp; omega
  · simp; omega
  · simp; omega
  · simp; omega
  · simp; omega
theorem uScalar_ok (c : Int) : Fn Tryz.prog 33 [fzI .i64 c] [] (fzB (scalB c)) [] := by
  refine utf_Scalar_fn _ ?_
  obtain ⟨R, hR, hRe⟩ := exR (fzB (scalB c)); rw [hRe]; clear hRe
  unfold utf_Scalar_H
  simp only [dec_t, dec_f]
  refine ⟨fun h0 => ⟨fun h1 => ⟨scalB c, ?_, hR⟩, fun h1 => ?_⟩, fun h0 => ?_⟩
  · rw [w32_in (by omega) (by omega)]; exact ValidRune_ok c
  · have : scalB c = false := by unfold scalB; simp; omega
    rw [this] at hR; exact hR
  · have : scalB c = false := by unfold scalB; simp; omega
    rw [this] at hR; exact hR
theorem scal_in {c : Int} (h : scalB c = true) : 0 ≤ c ∧ c ≤ 1114111 ∧ ¬ (55296 ≤ c ∧ c ≤ 57343) := by
  unfold scalB at h
  simp only [Bool.and_eq_true, decide_eq_true_eq, Bool.not_eq_true', Bool.and_eq_false_iff, decide_eq_false_iff_not] at h
  omega
def enc (l : List Int) : List Int := (l.map utfB).flatten
theorem enc_cons (c : Int) (l : List Int) : enc (c :: l) = utfB c ++ enc l := rfl
theorem utfB_le (c : Int) : (utfB c).length ≤ 4 := by
  have := utfB_len c
  split at this
  · omega
  · split at this
    · omega
    · split at this <;> omega
theorem utfB_bytes {c : Int} (h : scalB c = true) : Bytes (utfB c) := by
  obtain ⟨h0, h1, hs⟩ := scal_in h
  intro x hx
  unfold utfB at hx
  split at hx
  · simp at hx; omega
  · split at hx
    · simp at hx; omega
    · split at hx
      · simp at hx; omega
      · simp at hx; omega
def Scals (l : List Int) : Prop := ∀ c ∈ l, scalB c = true
end Go.Proofs.YtejefchehdifhaaGreatDoor.Ev
end
section
set_option linter.unusedVariables false
set_option linter.unusedSimpArgs false
namespace Go.Proofs.YtejefchehdifhaaGreatDoor.Ev
open Go Go.RowKit
theorem chs_snd : ∀ (f at_ : Nat) (l acc : List Int), (chs f l at_ acc).2 = -1 ∨ 0 ≤ (chs f l at_ acc).2
  | 0, at_, l, acc => .inl rfl
  | f + 1, at_, l, acc => by
    unfold chs
    split
    · exact .inl rfl
    · split
      · right; simp only; omega
      · exact chs_snd f _ l _
theorem chars_snd (T : List Int) : (chars T).2 = -1 ∨ 0 ≤ (chars T).2 := chs_snd _ _ _ _
theorem nm0 : Bytes [115, 112, 97, 99, 101] ∧ ByteArray.mk #[115, 112, 97, 99, 101] = bytesOf [115, 112, 97, 99, 101] := ⟨by intro x hx; simp at hx; omega, by decide +kernel⟩
theorem nm1 : Bytes [110, 101, 119, 108, 105, 110, 101] ∧ ByteArray.mk #[110, 101, 119, 108, 105, 110, 101] = bytesOf [110, 101, 119, 108, 105, 110, 101] := ⟨by intro x hx; simp at hx; omega, by decide +kernel⟩
theorem nm2 : Bytes [116, 97, 98] ∧ ByteArray.mk #[116, 97, 98] = bytesOf [116, 97, 98] := ⟨by intro x hx; simp at hx; omega, by decide +kernel⟩
theorem nm3 : Bytes [114, 101, 116, 117, 114, 110] ∧ ByteArray.mk #[114, 101, 116, 117, 114, 110] = bytesOf [114, 101, 116, 117, 114, 110] := ⟨by intro x hx; simp at hx; omega, by decide +kernel⟩
theorem nm4 : Bytes [110, 117, 108, 108] ∧ ByteArray.mk #[110, 117, 108, 108] = bytesOf [110, 117, 108, 108] := ⟨by intro x hx; simp at hx; omega, by decide +kernel⟩
theorem nm5 : Bytes [100, 101, 108, 101, 116, 101] ∧ ByteArray.mk #[100, 101, 108, 101, 116, 101] = bytesOf [100, 101, 108, 101, 116, 101] := ⟨by intro x hx; simp at hx; omega, by decide +kernel⟩
theorem DecodeInString_fn (T : List Int) : Fn Tryz.prog 64 [.one (.fz (.str (bytesOf T)))] [] (.tup [(false, [.fz (.int .i32 (deR T))]), (false, [.fz (.int .i64 (deN T))])]) [] := by
  intro ext w locs vals H hsz hrep
  obtain ⟨v, hv, hr⟩ := hrep 0 _ rfl
  have e : vals = #[v] := by
    apply Array.ext
    · simpa using hsz
    · intro i h1 h2
      have : i = 0 := by simp at h2; omega
      subst this
      rw [Array.getElem?_eq_getElem h1] at hv
      simpa using hv
  subst e
  replace hr : RF w (Bar ext locs []) (.str (bytesOf T)) v := hr
  cases hr
  refine (Tryz.utf8_DecodeRuneInString (bytesOf T) w (utf_tabs H.glob)).mono ?_
  rintro e w' ⟨rfl, hb⟩
  refine ⟨.tuple #[.int .i32 (deR T), .int .i64 (deN T)], locs, rfl, H.below hb, #[.int .i32 (deR T), .int .i64 (deN T)], rfl, rfl, fun i b' cs hi => ?_⟩
  match i with
  | 0 =>
    cases hi
    refine ⟨.int .i32 (deR T), rfl, [.int .i32 (deR T)], rfl, rfl, fun _ => rfl, fun j x hj => ?_⟩
    cases j with
    | zero => cases hj; exact ⟨_, rfl, .int _ _⟩
    | succ j => simp at hj
  | 1 =>
    cases hi
    refine ⟨.int .i64 (deN T), rfl, [.int .i64 (deN T)], rfl, rfl, fun _ => rfl, fun j x hj => ?_⟩
    cases j with
    | zero => cases hj; exact ⟨_, rfl, .int _ _⟩
    | succ j => simp at hj
  | i + 2 => simp at hi
end Go.Proofs.YtejefchehdifhaaGreatDoor.Ev
end
section
set_option linter.unusedVariables false
set_option linter.unusedSimpArgs false
namespace Go.Proofs.YtejefchehdifhaaGreatDoor.Ev
open Go
theorem ch1_ascii {c : Int} {r : List Int} (h : c < 128) : ch1 (c :: r) = (c, 1) := by
  unfold ch1 chN
  have : rd (c :: r) 0 = c := rfl
  rw [this, if_pos h]
theorem x_of (X : List Int) : ByteArray.mk #[120] ++ bytesOf X = bytesOf (120 :: X) := by
  have e : ByteArray.mk #[120] = bytesOf [120] := by decide +kernel
  rw [e, app_of]; rfl
theorem ch1_scal {l : List Int} (hl : Bytes l) (hne : l ≠ []) (h : (ch1 l).2 ≠ 0) : scalB (ch1 l).1 = true := by
  have b0 := rd_byte hl 0
  revert h
  unfold ch1 chN scalB
  repeat' split
  all_goals first | (intro h; exact absurd rfl h) | (intro _; simp; omega)
end Go.Proofs.YtejefchehdifhaaGreatDoor.Ev
end
section
set_option linter.unusedVariables false
set_option linter.unusedSimpArgs false
namespace Go.Proofs.YtejefchehdifhaaGreatDoor.Ev
open Go
theorem Ty.inv_bool {P : Program} {t : TypeId} {fs : List FV} (h : Ty P t fs) (hu : P.underlying t = some .bool) : ∃ b, fs = [.bool b] := by
  cases h <;> simp_all
theorem Ty.inv_int {P : Program} {t : TypeId} {k : IntKind} {fs : List FV} (h : Ty P t fs) (hu : P.underlying t = some (.int k)) : ∃ n, fs = [.int k n] ∧ k.min ≤ n ∧ n ≤ k.max := by
  cases h <;> simp_all
theorem Ty.inv_str {P : Program} {t : TypeId} {fs : List FV} (h : Ty P t fs) (hu : P.underlying t = some .string) : ∃ s, fs = [.str s] ∧ s.size ≤ reachBytes := by
  cases h <;> simp_all
theorem Ty.inv_sl {P : Program} {t e : TypeId} {fs : List FV} (h : Ty P t fs) (hu : P.underlying t = some (.slice e)) : ∃ es, fs = [.sl (P.cellsOf e) es] ∧ es.length * P.bytesOf e ≤ reachBytes ∧ ∀ x ∈ es, Ty P e x := by
  cases h <;> simp_all
theorem Ty.inv_struct {P : Program} {t : TypeId} {ds : Array Field} {fs : List FV} (h : Ty P t fs) (hu : P.underlying t = some (.struct ds)) : ∃ parts : List (List FV), fs = parts.flatten ∧ parts.length = ds.size ∧ ∀ (i : Nat) (f : Field) (x : List FV), ds[i]? = some f → parts[i]? = some x → Ty P f.type x := by
  cases h <;> simp_all
  exact ⟨_, rfl, ‹_›, ‹_›⟩
theorem Ty.inv_ints {P : Program} {t e : TypeId} {k : IntKind} {fs : List FV} (h : Ty P t fs) (hu : P.underlying t = some (.slice e)) (he : P.underlying e = some (.int k)) (hc : P.cellsOf e = 1) :
    ∃ l, fs = [.sl 1 (ints k l)] ∧ (∀ x ∈ l, k.min ≤ x ∧ x ≤ k.max) ∧ l.length * P.bytesOf e ≤ reachBytes := by
  obtain ⟨es, rfl, h1, h2⟩ := h.inv_sl hu
  have : ∃ l, es = ints k l ∧ ∀ x ∈ l, k.min ≤ x ∧ x ≤ k.max := by
    clear h1 h
    induction es with
    | nil => exact ⟨[], rfl, by simp⟩
    | cons x es ih =>
      obtain ⟨l, rfl, h3⟩ := ih fun y hy => h2 y (List.mem_cons_of_mem _ hy)
      obtain ⟨n, rfl, h4, h5⟩ := (h2 x List.mem_cons_self).inv_int he
      exact ⟨n :: l, by simp [ints], fun y hy => by
        rcases List.mem_cons.1 hy with rfl | hy
        · exact ⟨h4, h5⟩
        · exact h3 y hy⟩
  obtain ⟨l, rfl, h3⟩ := this
  exact ⟨l, by rw [hc], h3, by rwa [ints_len] at h1⟩
theorem two_parts {α : Type} {l : List α} (h : l.length = 2) : ∃ a b, l = [a, b] := by
  match l, h with
  | [a, b], _ => exact ⟨a, b, rfl⟩
theorem tyV_int {t : TypeId} {k : IntKind} {x : TV} (h : TyV Tryz.prog t x) (hu : Tryz.prog.underlying t = some (.int k)) : ∃ n, x = fzI k n ∧ k.min ≤ n ∧ n ≤ k.max := by
  rcases h with ⟨fs, rfl, h, ds, hd⟩ | ⟨f, rfl, h⟩
  · rw [hu] at hd; cases hd
  · obtain ⟨n, h, h1, h2⟩ := h.inv_int hu
    cases h
    exact ⟨n, rfl, h1, h2⟩
theorem ty_Int {fs : List FV} (h : Ty Tryz.prog 36 fs) : ∃ s l, fs = [.bool s, .sl 1 (ints .u32 l)] ∧ U32 l ∧ l.length * 4 ≤ reachBytes := by
  obtain ⟨parts, rfl, h1, h2⟩ := h.inv_struct Tryz.underlying36
  obtain ⟨a, b, rfl⟩ := two_parts h1
  obtain ⟨s, rfl⟩ := (h2 0 _ a rfl rfl).inv_bool Tryz.underlying4
  obtain ⟨l, rfl, h3, h4⟩ := (h2 1 _ b rfl rfl).inv_ints Tryz.underlying34 Tryz.underlying116 (by kernel_rfl)
  refine ⟨s, l, rfl, fun x hx => ?_, ?_⟩
  · have := h3 x hx
    simp [IntKind.min, IntKind.max, IntKind.signed, IntKind.bits] at this
    omega
  · have e : Tryz.prog.bytesOf 116 = 4 := by kernel_rfl
    rwa [e] at h4
end Go.Proofs.YtejefchehdifhaaGreatDoor.Ev
end
section
set_option linter.unusedVariables false
set_option linter.unusedSimpArgs false
namespace Go.Proofs.YtejefchehdifhaaGreatDoor.Ev
open Go
inductive Dt where
  | mk (kind : Int) (text : ByteArray) (neg : Bool) (limbs : List Int) (list : List Dt) (at_ : Int)
mutual
def Dt.row : Dt → List FV
  | .mk k t n l ds a => [.int .i64 k, .str t, .bool n, .sl 1 (ints .u32 l), .sl 6 (Dt.rows ds), .int .i64 a]
def Dt.rows : List Dt → List (List FV)
  | [] => []
  | d :: ds => d.row :: Dt.rows ds
end
abbrev fzD (d : Dt) : TV := .agg (d.row.map .fz)
theorem rows_get : ∀ (ds : List Dt) (i : Nat), (Dt.rows ds)[i]? = ds[i]?.map Dt.row
  | [], i => by simp [Dt.rows]
  | d :: ds, 0 => by simp [Dt.rows]
  | d :: ds, i + 1 => by simp [Dt.rows, rows_get ds i]
theorem rows_len (ds : List Dt) : (Dt.rows ds).length = ds.length := by
  induction ds with
  | nil => rfl
  | cons d ds ih => simp [Dt.rows, ih]
theorem rows_app : ∀ (a b : List Dt), Dt.rows (a ++ b) = Dt.rows a ++ Dt.rows b
  | [], b => by simp [Dt.rows]
  | d :: a, b => by simp [Dt.rows, rows_app a b]
def I64 (n : Int) : Prop := -9223372036854775808 ≤ n ∧ n ≤ 9223372036854775807
mutual
def Dt.ok : Dt → Prop
  | .mk k t _ l ds a => I64 k ∧ t.size ≤ 1048576 ∧ U32 l ∧ l.length * 4 ≤ 140737488355328 ∧ ds.length ≤ 1048576 ∧ Dt.oks ds ∧ I64 a
def Dt.oks : List Dt → Prop
  | [] => True
  | d :: ds => d.ok ∧ Dt.oks ds
end
theorem oks_mem : ∀ {ds : List Dt}, Dt.oks ds → ∀ d ∈ ds, d.ok
  | [], _, d, h => by cases h
  | e :: ds, h, d, hd => by
    unfold Dt.oks at h
    rcases List.mem_cons.1 hd with rfl | hd
    · exact h.1
    · exact oks_mem h.2 d hd
theorem five_parts {α : Type} {l : List α} (h : l.length = 5) : ∃ a b c d e, l = [a, b, c, d, e] := by
  match l, h with
  | [a, b, c, d, e], _ => exact ⟨a, b, c, d, e, rfl⟩
theorem bulkE_mem : ∀ {es : List (List FV)} {x : List FV}, x ∈ es → FV.bulkL x ≤ FV.bulkE es
  | e :: es, x, h => by
    unfold FV.bulkE
    rcases List.mem_cons.1 h with rfl | h
    · omega
    · have := bulkE_mem h; omega
theorem row_bulk (d : Dt) : 1 ≤ FV.bulkL d.row := by
  obtain ⟨k, t, n, l, ds, a⟩ := d
  simp only [Dt.row, FV.bulkL, FV.bulk]; omega
theorem rows_bulk : ∀ ds : List Dt, ds.length ≤ FV.bulkE (Dt.rows ds)
  | [] => by simp
  | d :: ds => by
    have h1 := row_bulk d
    have h2 := rows_bulk ds
    simp only [Dt.rows, FV.bulkE, List.length_cons]; omega
theorem bulk_five {a b c d e : List FV} {n : Nat} (h : FV.bulkL ([a, b, c, d, e] : List (List FV)).flatten ≤ n) : FV.bulkL a ≤ n ∧ FV.bulkL b ≤ n ∧ FV.bulkL c ≤ n ∧ FV.bulkL d ≤ n ∧ FV.bulkL e ≤ n := by
  simp only [List.flatten_cons, List.flatten_nil, bulkL_app, FV.bulkL] at h
  omega
theorem ty_Dt_aux {t : TypeId} {fs : List FV} (h : Ty Tryz.prog t fs) (hbk : FV.bulkL fs ≤ 1048576) : (t = 39 → ∃ d : Dt, fs = d.row ∧ d.ok) ∧
    (t = 37 → ∃ ds : List Dt, fs = [.sl 6 (Dt.rows ds)] ∧ ds.length ≤ 1048576 ∧ Dt.oks ds) := by
  have uD := Tryz.underlying39
  have uS := Tryz.underlying37
  induction h with
  | bool b hu => exact ⟨fun e => (by subst e; rw [uD] at hu; cases hu), fun e => (by subst e; rw [uS] at hu; cases hu)⟩
  | int n hu => exact ⟨fun e => (by subst e; rw [uD] at hu; cases hu), fun e => (by subst e; rw [uS] at hu; cases hu)⟩
  | str s hu => exact ⟨fun e => (by subst e; rw [uD] at hu; cases hu), fun e => (by subst e; rw [uS] at hu; cases hu)⟩
  | sl es hu h1 h2 ih =>
    refine ⟨fun e => (by subst e; rw [uD] at hu; cases hu), fun e => ?_⟩
    subst e
    rw [uS] at hu
    cases hu
    have hc : Tryz.prog.cellsOf 39 = 6 := by kernel_rfl
    rw [hc]
    clear h1 h2
    have hbe : FV.bulkE es ≤ 1048576 := by simp only [FV.bulkL, FV.bulk] at hbk; omega
    have : ∃ ds : List Dt, es = Dt.rows ds ∧ Dt.oks ds := by
      clear hbk
      induction es with
      | nil => exact ⟨[], by simp [Dt.rows], by simp [Dt.oks]⟩
      | cons x es ih2 =>
        have hbx := bulkE_mem (es := x :: es) List.mem_cons_self
        simp only [FV.bulkE] at hbe hbx
        obtain ⟨ds, rfl, hds⟩ := ih2 (fun y hy => ih y (List.mem_cons_of_mem _ hy)) (by omega)
        obtain ⟨d, rfl, hd⟩ := (ih x List.mem_cons_self (by omega)).1 rfl
        exact ⟨d :: ds, by simp [Dt.rows], by unfold Dt.oks; exact ⟨hd, hds⟩⟩
    obtain ⟨ds, rfl, hds⟩ := this
    exact ⟨ds, rfl, Nat.le_trans (rows_bulk ds) hbe, hds⟩
  | struct parts hu h1 h2 ih =>
    refine ⟨fun e => ?_, fun e => (by subst e; rw [uS] at hu; cases hu)⟩
    subst e
    rw [uD] at hu
    cases hu
    obtain ⟨a, b, c, d, e, rfl⟩ := five_parts h1
    obtain ⟨b1, b2, b3, b4, b5⟩ := bulk_five hbk
    obtain ⟨k, rfl, k0, k1⟩ := (h2 0 _ a rfl rfl).inv_int Tryz.underlying3
    obtain ⟨s, rfl, hs⟩ := (h2 1 _ b rfl rfl).inv_str Tryz.underlying9
    obtain ⟨n, l, rfl, hl, hl2⟩ := ty_Int (h2 2 _ c rfl rfl)
    obtain ⟨ds, rfl, hd1, hd2⟩ := (ih 3 _ d rfl rfl b4).2 rfl
    obtain ⟨p, rfl, p0, p1⟩ := (h2 4 _ e rfl rfl).inv_int Tryz.underlying3
    refine ⟨.mk k s n l ds p, by simp [Dt.row], ?_⟩
    unfold Dt.ok
    exact ⟨⟨k0, k1⟩, (by simp only [FV.bulkL, FV.bulk] at b2; omega), hl, Nat.le_trans hl2 (by decide), hd1, hd2, p0, p1⟩
end Go.Proofs.YtejefchehdifhaaGreatDoor.Ev
end
section
set_option linter.unusedVariables false
set_option linter.unusedSimpArgs false
namespace Go.Proofs.YtejefchehdifhaaGreatDoor.Ev
open Go
theorem drow_at {xs : List Dt} {i : Nat} {x : Dt} (h : xs[i]? = some x) : (Dt.rows xs)[i]? = some x.row := by rw [rows_get, h]; rfl
end Go.Proofs.YtejefchehdifhaaGreatDoor.Ev
end
section
set_option linter.unusedVariables false
set_option linter.unusedSimpArgs false
namespace Go.Proofs.YtejefchehdifhaaGreatDoor.Ev
open Go
def hxd (n : Int) : Int := if n < 10 then 48 + n else 87 + n
def hexT (c : Int) : List Int := if c < 16 then [hxd c] else [hxd (c / 16), hxd (c % 16)]
theorem hexT_bytes {c : Int} (h0 : 0 ≤ c) (h1 : c < 256) : Bytes (hexT c) ∧ (hexT c).length ≤ 2 := by
  unfold hexT hxd
  split
  · refine ⟨?_, by simp⟩
    intro x hx
    simp at hx
    split at hx <;> omega
  · refine ⟨?_, by simp⟩
    intro x hx
    simp at hx
    rcases hx with hx | hx
    · split at hx <;> omega
    · split at hx <;> omega
theorem ch1_take {l : List Int} (hl : Bytes l) (hne : l ≠ []) (h : (ch1 l).2 ≠ 0) : l.take (ch1 l).2.toNat = utfB (ch1 l).1 := by
  have b0 := rd_byte hl 0; have b1 := rd_byte hl 1; have b2 := rd_byte hl 2; have b3 := rd_byte hl 3
  have hbd := ch1_bounds hl hne
  have t1 : 1 ≤ l.length → l.take 1 = [rd l 0] := fun h => by
    rw [show l = rd l 0 :: l.drop 1 from by have := drop_rd' l 0 (by omega); simpa using this]; rfl
  have tk : ∀ n, n < l.length → l.take (n + 1) = l.take n ++ [rd l n] := fun n h => by rw [List.take_add_one, some_rd h]; rfl
  have hl1 : 1 ≤ l.length := by have : l.length ≠ 0 := fun e => hne (List.length_eq_zero_iff.1 e); omega
  generalize hp : ch1 l = p at *
  unfold ch1 chN at hp
  unfold utfB
  by_cases c1 : rd l 0 < 128
  · rw [if_pos c1] at hp
    subst hp
    simp only
    rw [if_pos c1]
    exact t1 hl1
  · rw [if_neg c1] at hp
    by_cases c2 : 192 ≤ rd l 0 ∧ rd l 0 < 224
    · rw [if_pos c2] at hp
      split at hp
      · rename_i hc
        subst hp
        simp only
        rw [if_neg (by omega), if_pos (by omega), show Int.toNat 2 = 1 + 1 from rfl, tk 1 (by omega), t1 hl1]
        simp only [List.cons_append, List.nil_append, List.cons.injEq, and_true]
        omega
      · subst hp; exact absurd rfl h
    · rw [if_neg c2] at hp
      by_cases c3 : 224 ≤ rd l 0 ∧ rd l 0 < 240
      · rw [if_pos c3] at hp
        split at hp
        · rename_i hc
          subst hp
          simp only
          rw [if_neg (by omega), if_neg (by omega), if_pos (by omega), show Int.toNat 3 = 1 + 1 + 1 from rfl, tk (1 + 1) (by omega), tk 1 (by omega), t1 hl1]
          simp only [List.cons_append, List.nil_append, List.cons.injEq, and_true, Nat.reduceAdd]
          omega
        · subst hp; exact absurd rfl h
      · rw [if_neg c3] at hp
        split at hp
        · split at hp
          · rename_i hc
            subst hp
            simp only
            rw [if_neg (by omega), if_neg (by omega), if_neg (by omega), show Int.toNat 4 = 1 + 1 + 1 + 1 from rfl, tk (1 + 1 + 1) (by omega), tk (1 + 1) (by omega), tk 1 (by omega), t1 hl1]
            simp only [List.cons_append, List.nil_append, List.cons.injEq, and_true, Nat.reduceAdd]
            omega
          · subst hp; exact absurd rfl h
        · subst hp; exact absurd rfl h
def escL (c : Int) : List Int :=
  if c = 92 ∨ c = 34 then [92, c] else if c = 10 then [92, 110] else if c = 9 then [92, 116] else if c = 13 then [92, 114]
  else if c < 32 ∨ c = 127 then [92, 120] ++ hexT c ++ [59] else utfB c
def quoS : Nat → List Int → List Int
  | 0, _ => [34]
  | f + 1, l => if l = [] then [34] else if (ch1 l).2 = 0 then rd l 0 :: quoS f (l.drop 1) else escL (ch1 l).1 ++ quoS f (l.drop (ch1 l).2.toNat)
def quoV (T : List Int) : List Int := 34 :: quoS (T.length + 1) T
theorem escL_len {c : Int} (h0 : 0 ≤ c) : (escL c).length ≤ 6 := by
  unfold escL
  repeat' split
  all_goals try (simp; done)
  · have := (hexT_bytes (c := c) h0 (by omega)).2
    simp; omega
  · have := utfB_le c
    omega
def nameL (c : Int) : List Int :=
  if c = 32 then [115, 112, 97, 99, 101] else if c = 10 then [110, 101, 119, 108, 105, 110, 101] else if c = 9 then [116, 97, 98] else if c = 13 then [114, 101, 116, 117, 114, 110] else if c = 0 then [110, 117, 108, 108] else if c = 127 then [100, 101, 108, 101, 116, 101]
  else if c < 32 then 120 :: hexT c else utfB c
end Go.Proofs.YtejefchehdifhaaGreatDoor.Ev
end
section
set_option linter.unusedVariables false
set_option maxRecDepth 100000
namespace Go.Proofs.YtejefchehdifhaaGreatDoor.Ev
open Go
def strconv_FormatInt_lv : List Nat → Keep := lvOf []
def strconv_FormatInt_H (R : TV → List Ob → Prop) (i : Int) : Prop :=
  (∃ s1 : ByteArray, ((Fn Tryz.prog 128 [(TV.one (AV.fz (FV.int .i64 i))), (TV.one (AV.fz (FV.int .i64 16)))] [] (TV.one (AV.fz (FV.str s1))) []) ∧ (R (TV.one (AV.fz (FV.str s1))) [])))
theorem strconv_FormatInt_fn (i : Int) {r : TV} {h : List Ob} (H : strconv_FormatInt_H (fun r' h' => r' = r ∧ h' = h) i) : Fn Tryz.prog 100 [(TV.one (AV.fz (FV.int .i64 i))), (TV.one (AV.fz (FV.int .i64 16)))] [] r h :=
  Fn.by_tr (M := (modeC [] [])) (lv := strconv_FormatInt_lv) (own := none) (F := Tryz.f100) (by kernel_rfl) (by kernel_rfl) (by first | decide | simp) (fun _ _ h => h) (by kernel_rfl) H
def internal_strconv_FormatInt_lv : List Nat → Keep := lvOf []
def internal_strconv_FormatInt_H (R : TV → List Ob → Prop) (i : Int) : Prop :=
  (∃ es1 : List (List FV), (∃ s1 : ByteArray, ((Fn Tryz.prog 151 [(TV.one (AV.fz (FV.sl 1 ([] : List (List FV))))), (TV.one (AV.fz (FV.int .u64 (IntKind.wrap .u64 i)))), (TV.one (AV.fz (FV.int .i64 16))), (TV.one (AV.fz (FV.bool (decide (i < 0))))), (TV.one (AV.fz (FV.bool false)))] [] (TV.tup [(false, [(AV.fz (FV.sl 1 es1))]), (false, [(AV.fz (FV.str s1))])]) []) ∧ (R (TV.one (AV.fz (FV.str s1))) []))))
theorem internal_strconv_FormatInt_fn (i : Int) {r : TV} {h : List Ob} (H : internal_strconv_FormatInt_H (fun r' h' => r' = r ∧ h' = h) i) : Fn Tryz.prog 128 [(TV.one (AV.fz (FV.int .i64 i))), (TV.one (AV.fz (FV.int .i64 16)))] [] r h :=
  Fn.by_tr (M := (modeC [] [])) (lv := internal_strconv_FormatInt_lv) (own := none) (F := Tryz.f128) (by kernel_rfl) (by kernel_rfl) (by first | decide | simp) (fun _ _ h => h) (by kernel_rfl) H
def internal_strconv_formatBits_lv : List Nat → Keep := lvOf [([0, 0, 1, 1, 1, 0, 1, 0, 1, 1, 1, 1, 1], ⟨130075, 0, [], false, false⟩), ([0, 0, 1, 1, 1, 0, 1, 1, 1, 1, 1], ⟨146459, 0, [], false, false⟩)]
def internal_strconv_formatBits_S0 (u1 : Int) (i : Int) (shift : Int) (o : List (List FV)) : St := (St.mk [(TV.one (AV.fz (FV.sl 1 ([] : List (List FV))))), (TV.one (AV.fz (FV.int .u64 u1))), TV.und, (TV.one (AV.fz (FV.bool false))), (TV.one (AV.fz (FV.bool false))), TV.und, TV.und, TV.und, TV.und, TV.und, (TV.one (AV.ofl 1 0)), (TV.one (AV.fz (FV.str (ByteArray.mk #[])))), (TV.one (AV.ptr 1 0 0 0)), (TV.one (AV.fz (FV.int .i64 i))), (TV.one (AV.fz (FV.int .u64 shift))), (TV.one (AV.fz (FV.int .u64 (IntKind.wrap .u64 16)))), (TV.one (AV.fz (FV.int .u64 (IntKind.wrap .u64 ((IntKind.wrap .u64 16) - 1))))), TV.und, TV.und, TV.und, TV.und, TV.und, TV.und, TV.und, TV.und, TV.und, TV.und, TV.und, TV.und, TV.und, TV.und, TV.und, TV.und, TV.und, TV.und, TV.und, TV.und, TV.und, TV.und, TV.und, TV.und, TV.und, TV.und, TV.und, TV.und, TV.und, TV.und, TV.und, TV.und, TV.und, TV.und, TV.und, TV.und, TV.und, TV.und, TV.und, TV.und, TV.und, TV.und, TV.und, TV.und, TV.und, TV.und, TV.und, TV.und, TV.und, TV.und, TV.und, TV.und, TV.und, TV.und, TV.und, TV.und, TV.und, TV.und, TV.und, TV.und, TV.und, TV.und, TV.und, TV.und, TV.und, TV.und, TV.und, TV.und, TV.und, TV.und, TV.und, TV.und, TV.und, TV.und, TV.und, TV.und, TV.und, TV.und, TV.und, TV.und, TV.und, TV.und, TV.und, TV.und, TV.und] [(Ob.f 0 1 ([] : List (List FV))), (Ob.f 0 1 o)])
def internal_strconv_formatBits_L0 (R : TV → List Ob → Prop) (u1 : Int) (i : Int) (shift : Int) (o : List (List FV)) : Prop := LoopAt Tryz.prog (modeC [] []) internal_strconv_formatBits_lv Tryz.f151 none R [1, 1, 1, 1, 1, 0, 1, 0, 1, 1, 1, 0, 0] (internal_strconv_formatBits_S0 u1 i shift o)
def internal_strconv_formatBits_S1 (u2 : Int) (i1 : Int) (o1 : List (List FV)) : St := (St.mk [(TV.one (AV.fz (FV.sl 1 ([] : List (List FV))))), (TV.one (AV.fz (FV.int .u64 u2))), TV.und, (TV.one (AV.fz (FV.bool false))), (TV.one (AV.fz (FV.bool false))), TV.und, TV.und, TV.und, TV.und, TV.und, (TV.one (AV.ofl 1 0)), (TV.one (AV.fz (FV.str (ByteArray.mk #[])))), (TV.one (AV.ptr 1 0 0 0)), (TV.one (AV.fz (FV.int .i64 i1))), TV.und, TV.und, TV.und, (TV.one (AV.fz (FV.int .u64 (IntKind.wrap .u64 16)))), TV.und, TV.und, TV.und, TV.und, TV.und, TV.und, TV.und, TV.und, TV.und, TV.und, TV.und, TV.und, TV.und, TV.und, TV.und, TV.und, TV.und, TV.und, TV.und, TV.und, TV.und, TV.und, TV.und, TV.und, TV.und, TV.und, TV.und, TV.und, TV.und, TV.und, TV.und, TV.und, TV.und, TV.und, TV.und, TV.und, TV.und, TV.und, TV.und, TV.und, TV.und, TV.und, TV.und, TV.und, TV.und, TV.und, TV.und, TV.und, TV.und, TV.und, TV.und, TV.und, TV.und, TV.und, TV.und, TV.und, TV.und, TV.und, TV.und, TV.und, TV.und, TV.und, TV.und, TV.und, TV.und, TV.und, TV.und, TV.und, TV.und, TV.und, TV.und, TV.und, TV.und, TV.und, TV.und, TV.und, TV.und, TV.und, TV.und, TV.und, TV.und, TV.und, TV.und, TV.und] [(Ob.f 0 1 ([] : List (List FV))), (Ob.f 0 1 o1)])
def internal_strconv_formatBits_L1 (R : TV → List Ob → Prop) (u2 : Int) (i1 : Int) (o1 : List (List FV)) : Prop := LoopAt Tryz.prog (modeC [] []) internal_strconv_formatBits_lv Tryz.f151 none R [1, 1, 1, 1, 1, 0, 1, 1, 1, 0, 0] (internal_strconv_formatBits_S1 u2 i1 o1)
def internal_strconv_formatBits_R0 (R : TV → List Ob → Prop) (u1 : Int) (i : Int) (shift : Int) (o : List (List FV)) : Prop :=
  (ifB (decide ((IntKind.wrap .u64 16) ≤ u1)) (((0 : Int) ≤ (IntKind.wrap .u64 (((BitVec.toNat ((BitVec.ofInt 64 u1) &&& (BitVec.ofInt 64 (IntKind.wrap .u64 ((IntKind.wrap .u64 16) - 1))))) : Nat) : Int))) ∧ (∃ c8 : UInt8, ((((ByteArray.data (ByteArray.mk #[48, 49, 50, 51, 52, 53, 54, 55, 56, 57, 97, 98, 99, 100, 101, 102, 103, 104, 105, 106, 107, 108, 109, 110, 111, 112, 113, 114, 115, 116, 117, 118, 119, 120, 121, 122])))[(Int.toNat (IntKind.wrap .u64 (((BitVec.toNat ((BitVec.ofInt 64 u1) &&& (BitVec.ofInt 64 (IntKind.wrap .u64 ((IntKind.wrap .u64 16) - 1))))) : Nat) : Int)))]? = (some c8)) ∧ (((((0 : Int) ≤ (IntKind.wrap .i64 (i - 1))) ∧ ((IntKind.wrap .i64 (i - 1)) < 65)) ∧ (65 = (List.length o))) ∧ (((Int.toNat (IntKind.wrap .i64 (i - 1))) < (List.length o)) ∧ (((0 : Int) ≤ shift) ∧ (internal_strconv_formatBits_L0 R (Int.fdiv u1 (2 ^ (min (Int.toNat shift) 64))) (IntKind.wrap .i64 (i - 1)) shift (List.set o (Int.toNat (IntKind.wrap .i64 (i - 1))) [(FV.int .u8 (((UInt8.toNat c8) : Nat) : Int))])))))))) (((0 : Int) ≤ u1) ∧ (∃ c9 : UInt8, ((((ByteArray.data (ByteArray.mk #[48, 49, 50, 51, 52, 53, 54, 55, 56, 57, 97, 98, 99, 100, 101, 102, 103, 104, 105, 106, 107, 108, 109, 110, 111, 112, 113, 114, 115, 116, 117, 118, 119, 120, 121, 122])))[(Int.toNat u1)]? = (some c9)) ∧ (((((0 : Int) ≤ (IntKind.wrap .i64 (i - 1))) ∧ ((IntKind.wrap .i64 (i - 1)) < 65)) ∧ (65 = (List.length o))) ∧ (((Int.toNat (IntKind.wrap .i64 (i - 1))) < (List.length o)) ∧ ((65 = (List.length (List.set o (Int.toNat (IntKind.wrap .i64 (i - 1))) [(FV.int .u8 (((UInt8.toNat c9) : Nat) : Int))]))) ∧ ((((0 : Int) ≤ (IntKind.wrap .i64 (i - 1))) ∧ ((IntKind.wrap .i64 (i - 1)) ≤ (((List.length (List.set o (Int.toNat (IntKind.wrap .i64 (i - 1))) [(FV.int .u8 (((UInt8.toNat c9) : Nat) : Int))])) : Nat) : Int))) ∧ (∃ ns4 : List Int, (((List.drop (Int.toNat (IntKind.wrap .i64 (i - 1))) (List.set o (Int.toNat (IntKind.wrap .i64 (i - 1))) [(FV.int .u8 (((UInt8.toNat c9) : Nat) : Int))])) = (List.map (fun n6 => [(FV.int .u8 n6)]) ns4)) ∧ (R (TV.tup [(false, [(AV.fz (FV.sl 1 ([] : List (List FV))))]), (false, [(AV.fz (FV.str (bytesOf ns4)))])]) [])))))))))))
theorem internal_strconv_formatBits_l0 {R : TV → List Ob → Prop} {u1 : Int} {i : Int} {shift : Int} {o : List (List FV)} (h : internal_strconv_formatBits_R0 R u1 i shift o) : internal_strconv_formatBits_L0 R u1 i shift o :=
  LoopAt.by_tr (by kernel_rfl) (by kernel_rfl) h
def internal_strconv_formatBits_H (R : TV → List Ob → Prop) (u : Int) : Prop :=
  (∃ b1 : Bool, ((Fn Tryz.prog 168 [(TV.one (AV.fz (FV.int .i64 16)))] [] (TV.one (AV.fz (FV.bool b1))) []) ∧ (ifB b1 (∃ n6 : Int, ((Fn Tryz.prog 169 [(TV.one (AV.fz (FV.int .u64 (IntKind.wrap .u64 16))))] [] (TV.one (AV.fz (FV.int .i64 n6))) []) ∧ (internal_strconv_formatBits_L0 R u 65 (IntKind.wrap .u64 n6) (List.replicate 65 [(FV.int .u8 0)])))) (internal_strconv_formatBits_L1 R u 65 (List.replicate 65 [(FV.int .u8 0)])))))
theorem internal_strconv_formatBits_fn (u : Int) {r : TV} {h : List Ob} (H : internal_strconv_formatBits_H (fun r' h' => r' = r ∧ h' = h) u) : Fn Tryz.prog 151 [(TV.one (AV.fz (FV.sl 1 ([] : List (List FV))))), (TV.one (AV.fz (FV.int .u64 u))), (TV.one (AV.fz (FV.int .i64 16))), (TV.one (AV.fz (FV.bool false))), (TV.one (AV.fz (FV.bool false)))] [] r h :=
  Fn.by_tr (M := (modeC [] [])) (lv := internal_strconv_formatBits_lv) (own := none) (F := Tryz.f151) (by kernel_rfl) (by kernel_rfl) (by first | decide | simp) (fun _ _ h => h) (by kernel_rfl) H
def internal_strconv_isPowerOfTwo_lv : List Nat → Keep := lvOf []
def internal_strconv_isPowerOfTwo_H (R : TV → List Ob → Prop)  : Prop :=
  (R (TV.one (AV.fz (FV.bool ((IntKind.wrap .i64 (((BitVec.toNat ((BitVec.ofInt 64 16) &&& (BitVec.ofInt 64 (IntKind.wrap .i64 (16 - 1))))) : Nat) : Int)) == 0)))) [])
theorem internal_strconv_isPowerOfTwo_fn  {r : TV} {h : List Ob} (H : internal_strconv_isPowerOfTwo_H (fun r' h' => r' = r ∧ h' = h) ) : Fn Tryz.prog 168 [(TV.one (AV.fz (FV.int .i64 16)))] [] r h :=
  Fn.by_tr (M := (modeC [] [])) (lv := internal_strconv_isPowerOfTwo_lv) (own := none) (F := Tryz.f168) (by kernel_rfl) (by kernel_rfl) (by first | decide | simp) (fun _ _ h => h) (by kernel_rfl) H
end Go.Proofs.YtejefchehdifhaaGreatDoor.Ev
end
section
set_option linter.unusedVariables false
set_option linter.unusedSimpArgs false
namespace Go.Proofs.YtejefchehdifhaaGreatDoor.Ev
open Go Go.RowKit
def deb : List Int := Lib.deBruijn64tab.map fun n => ((n : Nat) : Int)
theorem deb_mem : (9, deb.map fun i => FV.int .u8 i) ∈ tabs := by
  unfold tabs
  repeat' first | exact List.mem_cons_self | apply List.mem_cons_of_mem
theorem deb_at : ∀ j : Fin 64, deb[j.val]? = some ((Lib.deBruijn64tab.getD j.val 0 : Nat) : Int) := by decide
theorem TrailingZeros_fn : Fn Tryz.prog 169 [fzI .u64 16] [] (fzI .i64 4) [] :=
  Fn.of_below [.int .u64 16] rfl rfl fun w hg => by
    obtain ⟨t, z, h2⟩ := tabAt_ints (hg _ deb_mem)
    refine (Tryz.bits_TrailingZeros 16 (by omega) w (fun _ j hj => ?_)).mono ?_
    · have hl : Lib.deBruijn64tab.length = 64 := by decide
      have h3 := deb_at ⟨j, by omega⟩
      simp only at h3
      unfold World.cell?
      simp only [h2]
      simp [h3]
    · rintro e w' ⟨rfl, rfl⟩
      exact ⟨rfl, Below.refl _ _⟩
theorem pow16_ok : Fn Tryz.prog 168 [fzI .i64 16] [] (.one (.fz (.bool true))) [] := by
  refine internal_strconv_isPowerOfTwo_fn ?_
  unfold internal_strconv_isPowerOfTwo_H
  exact ⟨rfl, rfl⟩
def digArr : Array UInt8 := #[48, 49, 50, 51, 52, 53, 54, 55, 56, 57, 97, 98, 99, 100, 101, 102, 103, 104, 105, 106, 107, 108, 109, 110, 111, 112, 113, 114, 115, 116, 117, 118, 119, 120, 121, 122]
theorem dig_tab : ∀ n : Fin 16, (digArr[n.val]?).map (fun c => ((c.toNat : Nat) : Int)) = some (hxd (n.val : Int)) := by decide
theorem dig_at {n : Int} (h0 : 0 ≤ n) (h1 : n < 16) {Q : UInt8 → Prop} (hQ : ∀ c : UInt8, ((c.toNat : Nat) : Int) = hxd n → Q c) : ∃ c : UInt8, (ByteArray.data (ByteArray.mk #[48, 49, 50, 51, 52, 53, 54, 55, 56, 57, 97, 98, 99, 100, 101, 102, 103, 104, 105, 106, 107, 108, 109, 110, 111, 112, 113, 114, 115, 116, 117, 118, 119, 120, 121, 122]))[Int.toNat n]? = some c ∧ Q c := by
  have h := dig_tab ⟨n.toNat, by omega⟩
  show ∃ c : UInt8, digArr[Int.toNat n]? = some c ∧ Q c
  simp only at h
  cases hd : digArr[Int.toNat n]? with
  | none => rw [hd] at h; exact absurd h (by simp)
  | some c =>
    rw [hd] at h
    refine ⟨c, rfl, hQ c ?_⟩
    simpa [Int.toNat_of_nonneg h0] using h
theorem low4 : ∀ u : Fin 256, BitVec.toNat ((BitVec.ofInt 64 (u.val : Int)) &&& (BitVec.ofInt 64 15)) = u.val % 16 := by decide +kernel
theorem fmt_last (R : TV → List Ob → Prop) (u i : Int) (Z : List Int) (h0 : 0 ≤ u) (h1 : u < 16) (hi : 1 ≤ i) (hi1 : i ≤ 65) (hZ : Z.length = 65)
    (hR : R (.tup [(false, [.fz (.sl 1 [])]), (false, [.fz (.str (bytesOf (hxd u :: Z.drop i.toNat)))])]) []) : internal_strconv_formatBits_L0 R u i 4 (ints .u8 Z) := by
  refine internal_strconv_formatBits_l0 ?_
  unfold internal_strconv_formatBits_R0
  rw [show IntKind.wrap .u64 16 = 16 from rfl, show decide ((16 : Int) ≤ u) = false by simp; omega]
  simp only [ifB]
  refine ⟨h0, dig_at h0 h1 fun c hc => ?_⟩
  rw [hc, w64 (n := i - 1) (by omega) (by omega), ints_set, ints_drop, ints_len, ints_len, List.length_set, hZ]
  refine ⟨⟨⟨by omega, by omega⟩, rfl⟩, by omega, rfl, ⟨by omega, by omega⟩, _, rfl, ?_⟩
  have : (Z.set (i - 1).toNat (hxd u)).drop (i - 1).toNat = hxd u :: Z.drop i.toNat := by
    rw [List.drop_eq_getElem_cons (by rw [List.length_set]; omega), List.getElem_set_self, show (i - 1).toNat + 1 = i.toNat by omega, List.drop_set_of_lt (by omega)]
  rw [this]
  exact hR
theorem formatBits_ok (u : Int) (h0 : 0 ≤ u) (h1 : u < 256) : Fn Tryz.prog 151 [.one (.fz (.sl 1 [])), fzI .u64 u, fzI .i64 16, .one (.fz (.bool false)), .one (.fz (.bool false))] [] (.tup [(false, [.fz (.sl 1 [])]), (false, [.fz (.str (bytesOf (hexT u)))])]) [] := by
  refine internal_strconv_formatBits_fn _ ?_
  obtain ⟨R, hR, hRe⟩ := exR (.tup [(false, [.fz (.sl 1 [])]), (false, [.fz (.str (bytesOf (hexT u)))])]); rw [hRe]; clear hRe
  unfold internal_strconv_formatBits_H
  simp only [ifB]
  refine ⟨true, pow16_ok, ?_⟩
  simp only
  refine ⟨4, TrailingZeros_fn, ?_⟩
  rw [show IntKind.wrap .u64 4 = 4 from rfl, ints_rep]
  unfold hexT at hR
  by_cases c : u < 16
  · rw [if_pos c] at hR
    exact fmt_last R u 65 _ h0 c (by omega) (by omega) (by simp) (by simpa using hR)
  · rw [if_neg c] at hR
    refine internal_strconv_formatBits_l0 ?_
    unfold internal_strconv_formatBits_R0
    rw [show IntKind.wrap .u64 16 = 16 from rfl, show decide ((16 : Int) ≤ u) = true by simp; omega]
    simp only [ifB]
    have hl := low4 ⟨u.toNat, by omega⟩
    simp only at hl
    rw [show ((u.toNat : Nat) : Int) = u by omega] at hl
    have hl2 : ((u.toNat % 16 : Nat) : Int) = u % 16 := by omega
    rw [show IntKind.wrap .u64 (16 - 1) = 15 from rfl, hl, hl2, wu64 (n := u % 16) (by omega) (by omega), w64 (n := 65 - 1) (by omega) (by omega)]
    refine ⟨by omega, dig_at (by omega) (by omega) fun d hd => ?_⟩
    rw [hd, ints_set, ints_len]
    refine ⟨⟨⟨by omega, by omega⟩, by simp⟩, by simp, by omega, ?_⟩
    have e : Int.fdiv u (2 ^ (min (Int.toNat 4) 64)) = u / 16 := by
      rw [show (2 : Int) ^ (min (Int.toNat 4) 64) = 16 from rfl, Int.fdiv_eq_ediv_of_nonneg _ (by omega)]
    rw [e]
    refine fmt_last R (u / 16) 64 _ (by omega) (by omega) (by omega) (by omega) (by simp) ?_
    have e2 : ((List.replicate 65 (0 : Int)).set (Int.toNat (65 - 1)) (hxd (u % 16))).drop (Int.toNat 64) = [hxd (u % 16)] := rfl
    rw [e2]
    exact hR
theorem FormatIntI_ok (c : Int) (h0 : 0 ≤ c) (h1 : c < 256) : Fn Tryz.prog 128 [fzI .i64 c, fzI .i64 16] [] (.one (.fz (.str (bytesOf (hexT c))))) [] := by
  refine internal_strconv_FormatInt_fn _ ?_
  unfold internal_strconv_FormatInt_H
  rw [wu64 h0 (by omega), show decide (c < 0) = false by simp; omega]
  exact ⟨_, _, formatBits_ok c h0 h1, rfl, rfl⟩
theorem FormatInt_ok (c : Int) (h0 : 0 ≤ c) (h1 : c < 256) : Fn Tryz.prog 100 [fzI .i64 c, fzI .i64 16] [] (.one (.fz (.str (bytesOf (hexT c))))) [] := by
  refine strconv_FormatInt_fn _ ?_
  unfold strconv_FormatInt_H
  exact ⟨_, FormatIntI_ok c h0 h1, rfl, rfl⟩
end Go.Proofs.YtejefchehdifhaaGreatDoor.Ev
end
section
set_option linter.unusedVariables false
set_option maxRecDepth 100000
namespace Go.Proofs.YtejefchehdifhaaGreatDoor.Ev
open Go
def WriteByteFP_lv : List Nat → Keep := lvOf []
def WriteByteFP_H (R : TV → List Ob → Prop) (c : Int) : Prop :=
  ((Fn Tryz.prog 98 [(TV.one (AV.ptr 0 0 0 0))] [(Ob.g 90 [(AV.fz FV.nilp), (AV.nsl 1)])] (TV.tup []) [(Ob.g 90 [(AV.ptr 0 0 0 0), (AV.nsl 1)])]) ∧ (((((List.length ([] : List (List FV))) + (List.length [[(FV.int .u8 c)]])) * 1) ≤ 220000000000000) ∧ (R (TV.one (AV.fz (FV.ifc false))) [(Ob.g 90 [(AV.ptr 0 0 0 0), (AV.ofl 1 1)]), (Ob.f 5 1 (([] : List (List FV)) ++ [[(FV.int .u8 c)]]))])))
theorem WriteByteFP_fn (c : Int) {r : TV} {h : List Ob} (H : WriteByteFP_H (fun r' h' => r' = r ∧ Wk h' h) c) : Fn Tryz.prog 63 [(TV.one (AV.ptr 0 0 0 0)), (TV.one (AV.fz (FV.int .u8 c)))] [(Ob.g 90 [(AV.fz FV.nilp), (AV.nsl 1)])] r h :=
  Fn.by_trW (M := (modeOf [] [(98, [(Sig.mk 1 [] [(OT.g 90 [(AT.a (AV.ptr 0 0 0 0)), (AT.a (AV.nsl 1))])] 0)])])) (lv := WriteByteFP_lv) (own := (some 1)) (F := Tryz.f63) (by kernel_rfl) (by kernel_rfl) (by first | decide | simp) (fun _ _ h => h) (by kernel_rfl) H
def WriteByteUP_lv : List Nat → Keep := lvOf []
def WriteByteUP_H (R : TV → List Ob → Prop) (c : Int) (o : List (List FV)) : Prop :=
  (∃ es1 : List (List FV), ((Fn Tryz.prog 98 [(TV.one (AV.ptr 0 0 0 0))] [(Ob.g 90 [(AV.ptr 0 0 0 0), (AV.ofl 1 1)]), (Ob.f 5 1 o)] (TV.tup []) [(Ob.g 90 [(AV.ptr 0 0 0 0), (AV.ofl 1 1)]), (Ob.f 5 1 es1)]) ∧ (((((List.length es1) + (List.length [[(FV.int .u8 c)]])) * 1) ≤ 220000000000000) ∧ (R (TV.one (AV.fz (FV.ifc false))) [(Ob.g 90 [(AV.ptr 0 0 0 0), (AV.ofl 1 2)]), Ob.no, (Ob.f 5 1 (es1 ++ [[(FV.int .u8 c)]]))]))))
theorem WriteByteUP_fn (c : Int) (o : List (List FV)) {r : TV} {h : List Ob} (H : WriteByteUP_H (fun r' h' => r' = r ∧ Wk h' h) c o) : Fn Tryz.prog 63 [(TV.one (AV.ptr 0 0 0 0)), (TV.one (AV.fz (FV.int .u8 c)))] [(Ob.g 90 [(AV.ptr 0 0 0 0), (AV.ofl 1 1)]), (Ob.f 5 1 o)] r h :=
  Fn.by_trW (M := (modeOf [] [(98, [(Sig.mk 2 [] [(OT.g 90 [(AT.a (AV.ptr 0 0 0 0)), (AT.a (AV.ofl 1 1))]), (OT.f 5 1)] 0)])])) (lv := WriteByteUP_lv) (own := (some 2)) (F := Tryz.f63) (by kernel_rfl) (by kernel_rfl) (by first | decide | simp) (fun _ _ h => h) (by kernel_rfl) H
def WriteStringFP_lv : List Nat → Keep := lvOf []
def WriteStringFP_H (R : TV → List Ob → Prop) (s : ByteArray) : Prop :=
  ((Fn Tryz.prog 98 [(TV.one (AV.ptr 0 0 0 0))] [(Ob.g 90 [(AV.fz FV.nilp), (AV.nsl 1)])] (TV.tup []) [(Ob.g 90 [(AV.ptr 0 0 0 0), (AV.nsl 1)])]) ∧ (((((List.length ([] : List (List FV))) + (List.length (List.map (fun b5 => [(FV.int .u8 (((UInt8.toNat b5) : Nat) : Int))]) (Array.toList (ByteArray.data s))))) * 1) ≤ 220000000000000) ∧ (R (TV.tup [(false, [(AV.fz (FV.int .i64 (((ByteArray.size s) : Nat) : Int)))]), (false, [(AV.fz (FV.ifc false))])]) [(Ob.g 90 [(AV.ptr 0 0 0 0), (AV.ofl 1 1)]), (Ob.f 5 1 (([] : List (List FV)) ++ (List.map (fun b7 => [(FV.int .u8 (((UInt8.toNat b7) : Nat) : Int))]) (Array.toList (ByteArray.data s)))))])))
theorem WriteStringFP_fn (s : ByteArray) {r : TV} {h : List Ob} (H : WriteStringFP_H (fun r' h' => r' = r ∧ Wk h' h) s) : Fn Tryz.prog 65 [(TV.one (AV.ptr 0 0 0 0)), (TV.one (AV.fz (FV.str s)))] [(Ob.g 90 [(AV.fz FV.nilp), (AV.nsl 1)])] r h :=
  Fn.by_trW (M := (modeOf [] [(98, [(Sig.mk 1 [] [(OT.g 90 [(AT.a (AV.ptr 0 0 0 0)), (AT.a (AV.nsl 1))])] 0)])])) (lv := WriteStringFP_lv) (own := (some 1)) (F := Tryz.f65) (by kernel_rfl) (by kernel_rfl) (by first | decide | simp) (fun _ _ h => h) (by kernel_rfl) H
def WriteStringUP_lv : List Nat → Keep := lvOf []
def WriteStringUP_H (R : TV → List Ob → Prop) (s : ByteArray) (o : List (List FV)) : Prop :=
  (∃ es1 : List (List FV), ((Fn Tryz.prog 98 [(TV.one (AV.ptr 0 0 0 0))] [(Ob.g 90 [(AV.ptr 0 0 0 0), (AV.ofl 1 1)]), (Ob.f 5 1 o)] (TV.tup []) [(Ob.g 90 [(AV.ptr 0 0 0 0), (AV.ofl 1 1)]), (Ob.f 5 1 es1)]) ∧ (((((List.length es1) + (List.length (List.map (fun b5 => [(FV.int .u8 (((UInt8.toNat b5) : Nat) : Int))]) (Array.toList (ByteArray.data s))))) * 1) ≤ 220000000000000) ∧ (R (TV.tup [(false, [(AV.fz (FV.int .i64 (((ByteArray.size s) : Nat) : Int)))]), (false, [(AV.fz (FV.ifc false))])]) [(Ob.g 90 [(AV.ptr 0 0 0 0), (AV.ofl 1 2)]), Ob.no, (Ob.f 5 1 (es1 ++ (List.map (fun b7 => [(FV.int .u8 (((UInt8.toNat b7) : Nat) : Int))]) (Array.toList (ByteArray.data s)))))]))))
theorem WriteStringUP_fn (s : ByteArray) (o : List (List FV)) {r : TV} {h : List Ob} (H : WriteStringUP_H (fun r' h' => r' = r ∧ Wk h' h) s o) : Fn Tryz.prog 65 [(TV.one (AV.ptr 0 0 0 0)), (TV.one (AV.fz (FV.str s)))] [(Ob.g 90 [(AV.ptr 0 0 0 0), (AV.ofl 1 1)]), (Ob.f 5 1 o)] r h :=
  Fn.by_trW (M := (modeOf [] [(98, [(Sig.mk 2 [] [(OT.g 90 [(AT.a (AV.ptr 0 0 0 0)), (AT.a (AV.ofl 1 1))]), (OT.f 5 1)] 0)])])) (lv := WriteStringUP_lv) (own := (some 2)) (F := Tryz.f65) (by kernel_rfl) (by kernel_rfl) (by first | decide | simp) (fun _ _ h => h) (by kernel_rfl) H
end Go.Proofs.YtejefchehdifhaaGreatDoor.Ev
end
section
set_option linter.unusedVariables false
set_option linter.unusedSimpArgs false
namespace Go.Proofs.YtejefchehdifhaaGreatDoor.Ev
open Go
theorem liesPrinter : liesAt Tryz.prog Tryz.prog.depth 90 (2 / Tryz.prog.cellsOf 90) 0 88 1 = true := by kernel_rfl
abbrev pF : List Ob := [.g 90 [.fz .nilp, .nsl 1]]
abbrev pU (l : List Int) : List Ob := [.g 90 [.ptr 0 0 0 0, .ofl 1 1], .f 5 1 (ints .u8 l)]
abbrev pV (l : List Int) : List Ob := [.g 90 [.ptr 0 0 0 0, .ofl 1 2], .no, .f 5 1 (ints .u8 l)]
theorem writeByteFP_ok (c : Int) : Fn Tryz.prog 63 [p0, fzI .u8 c] pF (.one (.fz (.ifc false))) (pU [c]) := by
  refine WriteByteFP_fn _ ?_
  unfold WriteByteFP_H
  simp only [ints_len, ints_app, ints_snoc, ints_take, ints_drop, ints_set, ints_rep, ints_one, ex_rd, dec_t, dec_f, beq_t, beq_f, bne_t, bne_f, not_t, not_f, List.length_set, List.length_append, List.length_cons, List.length_nil, List.length_take, List.length_drop, List.length_replicate, Int.toNat_natCast, List.nil_append, Bool.not_true, Bool.not_false, Wk_nil, Wk_cons, wk1_same, wk1_f, and_true, true_and, Bool.false_eq_true, Bool.true_eq_false, false_implies, forall_const]
  exact ⟨copyCheck_fn_fresh _ liesPrinter _ _, by omega⟩
theorem writeByteUP_ok (c : Int) (l : List Int) (hl : l.length ≤ 100000000) : Fn Tryz.prog 63 [p0, fzI .u8 c] (pU l) (.one (.fz (.ifc false))) (pV (l ++ [c])) := by
  refine WriteByteUP_fn _ _ ?_
  unfold WriteByteUP_H
  refine ⟨_, copyCheck_fn_used _ _ _, ?_⟩
  simp only [ints_len, ints_app, ints_snoc, ints_take, ints_drop, ints_set, ints_rep, ints_one, ex_rd, dec_t, dec_f, beq_t, beq_f, bne_t, bne_f, not_t, not_f, List.length_set, List.length_append, List.length_cons, List.length_nil, List.length_take, List.length_drop, List.length_replicate, Int.toNat_natCast, List.nil_append, Bool.not_true, Bool.not_false, Wk_nil, Wk_cons, wk1_same, wk1_f, and_true, true_and, Bool.false_eq_true, Bool.true_eq_false, false_implies, forall_const]
  omega
theorem writeStringFP_ok (s : ByteArray) (hs : (bs s).length ≤ 100000000) : Fn Tryz.prog 65 [p0, .one (.fz (.str s))] pF (wsR (bs s).length) (pU (bs s)) := by
  refine WriteStringFP_fn _ ?_
  unfold WriteStringFP_H
  simp only [map_bs, size_bs]
  simp only [ints_len, ints_app, ints_snoc, ints_take, ints_drop, ints_set, ints_rep, ints_one, ex_rd, dec_t, dec_f, beq_t, beq_f, bne_t, bne_f, not_t, not_f, List.length_set, List.length_append, List.length_cons, List.length_nil, List.length_take, List.length_drop, List.length_replicate, Int.toNat_natCast, List.nil_append, Bool.not_true, Bool.not_false, Wk_nil, Wk_cons, wk1_same, wk1_f, and_true, true_and, Bool.false_eq_true, Bool.true_eq_false, false_implies, forall_const]
  exact ⟨copyCheck_fn_fresh _ liesPrinter _ _, by omega⟩
theorem writeStringUP_ok (s : ByteArray) (l : List Int) (hs : (bs s).length ≤ 100000000) (hl : l.length ≤ 100000000) : Fn Tryz.prog 65 [p0, .one (.fz (.str s))] (pU l) (wsR (bs s).length) (pV (l ++ bs s)) := by
  refine WriteStringUP_fn _ _ ?_
  unfold WriteStringUP_H
  refine ⟨_, copyCheck_fn_used _ _ _, ?_⟩
  simp only [map_bs, size_bs]
  simp only [ints_len, ints_app, ints_snoc, ints_take, ints_drop, ints_set, ints_rep, ints_one, ex_rd, dec_t, dec_f, beq_t, beq_f, bne_t, bne_f, not_t, not_f, List.length_set, List.length_append, List.length_cons, List.length_nil, List.length_take, List.length_drop, List.length_replicate, Int.toNat_natCast, List.nil_append, Bool.not_true, Bool.not_false, Wk_nil, Wk_cons, wk1_same, wk1_f, and_true, true_and, Bool.false_eq_true, Bool.true_eq_false, false_implies, forall_const]
  omega
theorem stringUP_ok (l : List Int) (hne : l ≠ []) (hb : Bytes l) (hl : l.length ≤ 100000000) :
    Fn Tryz.prog 59 [p0] (pU l) (.one (.fz (.str (bytesOf l)))) [.g 90 [.ptr 0 0 0 0, .ofl 1 1], .z 1 (ints .u8 l)] :=
  String_fn _ _ l hne (fun n hn => hb n hn) (by omega)
end Go.Proofs.YtejefchehdifhaaGreatDoor.Ev
end
section
set_option linter.unusedVariables false
set_option maxRecDepth 100000
namespace Go.Proofs.YtejefchehdifhaaGreatDoor.Ev
open Go
def utf_Name_lv : List Nat → Keep := lvOf [([0, 1, 0, 1, 1], ⟨1537, 0, [], false, false⟩)]
def utf_Name_S0 (c : Int) (i : Int) : St := (St.mk [(TV.one (AV.fz (FV.int .i64 c))), TV.und, TV.und, TV.und, TV.und, TV.und, TV.und, TV.und, TV.und, (TV.agg [(AV.fz (FV.int .i64 32)), (AV.fz (FV.str (ByteArray.mk #[115, 112, 97, 99, 101]))), (AV.fz (FV.int .i64 10)), (AV.fz (FV.str (ByteArray.mk #[110, 101, 119, 108, 105, 110, 101]))), (AV.fz (FV.int .i64 9)), (AV.fz (FV.str (ByteArray.mk #[116, 97, 98]))), (AV.fz (FV.int .i64 13)), (AV.fz (FV.str (ByteArray.mk #[114, 101, 116, 117, 114, 110]))), (AV.fz (FV.int .i64 0)), (AV.fz (FV.str (ByteArray.mk #[110, 117, 108, 108]))), (AV.fz (FV.int .i64 127)), (AV.fz (FV.str (ByteArray.mk #[100, 101, 108, 101, 116, 101])))]), (TV.one (AV.fz (FV.int .i64 i))), TV.und, TV.und, TV.und, TV.und, TV.und, TV.und, TV.und, TV.und, TV.und, TV.und, TV.und, TV.und, TV.und, TV.und, TV.und, TV.und, TV.und] [])
def utf_Name_L0 (R : TV → List Ob → Prop) (c : Int) (i : Int) : Prop := LoopAt Tryz.prog (modeOf [] []) utf_Name_lv Tryz.f93 none R [1, 1, 0, 1, 0] (utf_Name_S0 c i)
def utf_Name_R0 (R : TV → List Ob → Prop) (c : Int) (i : Int) : Prop :=
  ((((decide (i < 6)) = true) → ((((0 : Int) ≤ i) ∧ (i < 6)) ∧ (∃ n2 : Int, (∃ s4 : ByteArray, ((cutT [(AV.fz (FV.int .i64 32)), (AV.fz (FV.str (ByteArray.mk #[115, 112, 97, 99, 101]))), (AV.fz (FV.int .i64 10)), (AV.fz (FV.str (ByteArray.mk #[110, 101, 119, 108, 105, 110, 101]))), (AV.fz (FV.int .i64 9)), (AV.fz (FV.str (ByteArray.mk #[116, 97, 98]))), (AV.fz (FV.int .i64 13)), (AV.fz (FV.str (ByteArray.mk #[114, 101, 116, 117, 114, 110]))), (AV.fz (FV.int .i64 0)), (AV.fz (FV.str (ByteArray.mk #[110, 117, 108, 108]))), (AV.fz (FV.int .i64 127)), (AV.fz (FV.str (ByteArray.mk #[100, 101, 108, 101, 116, 101])))] ((Int.toNat i) * 2) 2 [(FV.int .i64 n2), (FV.str s4)]) ∧ ((((n2 == c) = true) → (R (TV.tup [(false, [(AV.fz (FV.str s4))]), (false, [(AV.fz (FV.int .i64 0))])]) [])) ∧ (((n2 == c) = false) → (utf_Name_L0 R c (IntKind.wrap .i64 (i + 1)))))))))) ∧ (((decide (i < 6)) = false) → ((((decide (c < 32)) = true) → (∃ s5 : ByteArray, ((Fn Tryz.prog 100 [(TV.one (AV.fz (FV.int .i64 c))), (TV.one (AV.fz (FV.int .i64 16)))] [] (TV.one (AV.fz (FV.str s5))) []) ∧ ((((ByteArray.size (ByteArray.mk #[120])) + (ByteArray.size s5)) ≤ 9223372036854775807) ∧ (R (TV.tup [(false, [(AV.fz (FV.str ((ByteArray.mk #[120]) ++ s5)))]), (false, [(AV.fz (FV.int .i64 0))])]) []))))) ∧ (((decide (c < 32)) = false) → (R (TV.tup [(false, [(AV.fz (FV.str (Utf8.encode (IntKind.wrap .i32 c))))]), (false, [(AV.fz (FV.int .i64 0))])]) [])))))
theorem utf_Name_l0 {R : TV → List Ob → Prop} {c : Int} {i : Int} (h : utf_Name_R0 R c i) : utf_Name_L0 R c i :=
  LoopAt.by_tr (by kernel_rfl) (by kernel_rfl) h
def utf_Name_H (R : TV → List Ob → Prop) (c : Int) : Prop :=
  (∃ b1 : Bool, ((Fn Tryz.prog 33 [(TV.one (AV.fz (FV.int .i64 c)))] [] (TV.one (AV.fz (FV.bool b1))) []) ∧ ((((Bool.not b1) = true) → (R (TV.tup [(false, [(AV.fz (FV.str (ByteArray.mk #[])))]), (false, [(AV.fz (FV.int .i64 1))])]) [])) ∧ (((Bool.not b1) = false) → (utf_Name_L0 R c 0)))))
theorem utf_Name_fn (c : Int) {r : TV} {h : List Ob} (H : utf_Name_H (fun r' h' => r' = r ∧ h' = h) c) : Fn Tryz.prog 93 [(TV.one (AV.fz (FV.int .i64 c)))] [] r h :=
  Fn.by_tr (M := (modeOf [] [])) (lv := utf_Name_lv) (own := none) (F := Tryz.f93) (by kernel_rfl) (by kernel_rfl) (by first | decide | simp) (fun _ _ h => h) (by kernel_rfl) H
def print_escape_lv : List Nat → Keep := lvOf []
def print_escape_H (R : TV → List Ob → Prop) (r_ : Int) : Prop :=
  ((((r_ == 92) = true) → ((((ByteArray.size (ByteArray.mk #[92])) + (ByteArray.size (Utf8.encode r_))) ≤ 9223372036854775807) ∧ (R (TV.one (AV.fz (FV.str ((ByteArray.mk #[92]) ++ (Utf8.encode r_))))) []))) ∧ (((r_ == 92) = false) → ((((r_ == 34) = true) → ((((ByteArray.size (ByteArray.mk #[92])) + (ByteArray.size (Utf8.encode r_))) ≤ 9223372036854775807) ∧ (R (TV.one (AV.fz (FV.str ((ByteArray.mk #[92]) ++ (Utf8.encode r_))))) []))) ∧ (((r_ == 34) = false) → ((((r_ == 10) = true) → (R (TV.one (AV.fz (FV.str (ByteArray.mk #[92, 110])))) [])) ∧ (((r_ == 10) = false) → ((((r_ == 9) = true) → (R (TV.one (AV.fz (FV.str (ByteArray.mk #[92, 116])))) [])) ∧ (((r_ == 9) = false) → ((((r_ == 13) = true) → (R (TV.one (AV.fz (FV.str (ByteArray.mk #[92, 114])))) [])) ∧ (((r_ == 13) = false) → ((((decide (r_ < 32)) = true) → (∃ s2 : ByteArray, ((Fn Tryz.prog 100 [(TV.one (AV.fz (FV.int .i64 (IntKind.wrap .i64 r_)))), (TV.one (AV.fz (FV.int .i64 16)))] [] (TV.one (AV.fz (FV.str s2))) []) ∧ ((((ByteArray.size (ByteArray.mk #[92, 120])) + (ByteArray.size s2)) ≤ 9223372036854775807) ∧ ((((ByteArray.size ((ByteArray.mk #[92, 120]) ++ s2)) + (ByteArray.size (ByteArray.mk #[59]))) ≤ 9223372036854775807) ∧ (R (TV.one (AV.fz (FV.str (((ByteArray.mk #[92, 120]) ++ s2) ++ (ByteArray.mk #[59]))))) [])))))) ∧ (((decide (r_ < 32)) = false) → ((((r_ == 127) = true) → (∃ s3 : ByteArray, ((Fn Tryz.prog 100 [(TV.one (AV.fz (FV.int .i64 (IntKind.wrap .i64 r_)))), (TV.one (AV.fz (FV.int .i64 16)))] [] (TV.one (AV.fz (FV.str s3))) []) ∧ ((((ByteArray.size (ByteArray.mk #[92, 120])) + (ByteArray.size s3)) ≤ 9223372036854775807) ∧ ((((ByteArray.size ((ByteArray.mk #[92, 120]) ++ s3)) + (ByteArray.size (ByteArray.mk #[59]))) ≤ 9223372036854775807) ∧ (R (TV.one (AV.fz (FV.str (((ByteArray.mk #[92, 120]) ++ s3) ++ (ByteArray.mk #[59]))))) [])))))) ∧ (((r_ == 127) = false) → (R (TV.one (AV.fz (FV.str (Utf8.encode r_)))) [])))))))))))))))
theorem print_escape_fn (r_ : Int) {r : TV} {h : List Ob} (H : print_escape_H (fun r' h' => r' = r ∧ h' = h) r_) : Fn Tryz.prog 66 [(TV.one (AV.fz (FV.int .i32 r_)))] [] r h :=
  Fn.by_tr (M := (modeOf [] [])) (lv := print_escape_lv) (own := none) (F := Tryz.f66) (by kernel_rfl) (by kernel_rfl) (by first | decide | simp) (fun _ _ h => h) (by kernel_rfl) H
def print_Quoted_lv : List Nat → Keep := lvOf [([0, 0, 1, 1, 1], ⟨9, 0, [], false, false⟩)]
def print_Quoted_S0 (s4 : ByteArray) (es : List (List FV)) : St := (St.mk [(TV.one (AV.fz (FV.str s4))), TV.und, TV.und, (TV.one (AV.ptr 0 0 0 0)), TV.und, TV.und, TV.und, TV.und, TV.und, TV.und, TV.und, TV.und, TV.und, TV.und, TV.und, TV.und, TV.und, TV.und, TV.und, TV.und, TV.und, TV.und, TV.und, TV.und, TV.und, TV.und, TV.und, TV.und, TV.und, TV.und, TV.und, TV.und, TV.und] [(Ob.g 88 [(AV.ptr 0 0 0 0), (AV.ofl 1 1)]), (Ob.f 5 1 es)])
def print_Quoted_L0 (R : TV → List Ob → Prop) (s4 : ByteArray) (es : List (List FV)) : Prop := LoopAt Tryz.prog (modeOf [] [(63, [(Sig.mk 1 [(false, [(AT.a (AV.fz (FV.ifc false)))])] [(OT.g 88 [(AT.a (AV.ptr 0 0 0 0)), (AT.a (AV.ofl 1 1))]), (OT.f 5 1)] 0), (Sig.mk 2 [(false, [(AT.a (AV.fz (FV.ifc false)))])] [(OT.g 88 [(AT.a (AV.ptr 0 0 0 0)), (AT.a (AV.ofl 1 2))]), OT.no, (OT.f 5 1)] 0)]), (65, [(Sig.mk 1 [(false, [(AT.k (CK.int .i64))]), (false, [(AT.a (AV.fz (FV.ifc false)))])] [(OT.g 88 [(AT.a (AV.ptr 0 0 0 0)), (AT.a (AV.ofl 1 1))]), (OT.f 5 1)] 0), (Sig.mk 2 [(false, [(AT.k (CK.int .i64))]), (false, [(AT.a (AV.fz (FV.ifc false)))])] [(OT.g 88 [(AT.a (AV.ptr 0 0 0 0)), (AT.a (AV.ofl 1 2))]), OT.no, (OT.f 5 1)] 0)]), (59, [(Sig.mk 2 [(false, [(AT.k CK.str)])] [(OT.g 88 [(AT.a (AV.ptr 0 0 0 0)), (AT.a (AV.ofl 1 1))]), (OT.z 1)] 0)])]) print_Quoted_lv Tryz.f24 none R [1, 1, 1, 0, 0] (print_Quoted_S0 s4 es)
def print_Quoted_R0 (R : TV → List Ob → Prop) (s4 : ByteArray) (es : List (List FV)) : Prop :=
  ((((decide ((0 : Int) < (((ByteArray.size s4) : Nat) : Int))) = true) → (∃ n10 : Int, (∃ n11 : Int, ((Fn Tryz.prog 64 [(TV.one (AV.fz (FV.str s4)))] [] (TV.tup [(false, [(AV.fz (FV.int .i32 n10))]), (false, [(AV.fz (FV.int .i64 n11))])]) []) ∧ ((((n10 == 65533) = true) → ((((decide (n11 < 2)) = true) → ((((0 : Int) ≤ n11) ∧ (n11 ≤ (((ByteArray.size s4) : Nat) : Int))) ∧ (∃ es11 : List (List FV), (∃ n12 : Int, ((Fn Tryz.prog 65 [(TV.one (AV.ptr 0 0 0 0)), (TV.one (AV.fz (FV.str (ByteArray.extract s4 0 (Int.toNat n11)))))] [(Ob.g 88 [(AV.ptr 0 0 0 0), (AV.ofl 1 1)]), (Ob.f 5 1 es)] (TV.tup [(false, [(AV.fz (FV.int .i64 n12))]), (false, [(AV.fz (FV.ifc false))])]) [(Ob.g 88 [(AV.ptr 0 0 0 0), (AV.ofl 1 2)]), Ob.no, (Ob.f 5 1 es11)]) ∧ ((((0 : Int) ≤ n11) ∧ (n11 ≤ (((ByteArray.size s4) : Nat) : Int))) ∧ (print_Quoted_L0 R (ByteArray.extract s4 (Int.toNat n11) (ByteArray.size s4)) es11))))))) ∧ (((decide (n11 < 2)) = false) → (∃ s8 : ByteArray, ((Fn Tryz.prog 66 [(TV.one (AV.fz (FV.int .i32 n10)))] [] (TV.one (AV.fz (FV.str s8))) []) ∧ (∃ es12 : List (List FV), (∃ n13 : Int, ((Fn Tryz.prog 65 [(TV.one (AV.ptr 0 0 0 0)), (TV.one (AV.fz (FV.str s8)))] [(Ob.g 88 [(AV.ptr 0 0 0 0), (AV.ofl 1 1)]), (Ob.f 5 1 es)] (TV.tup [(false, [(AV.fz (FV.int .i64 n13))]), (false, [(AV.fz (FV.ifc false))])]) [(Ob.g 88 [(AV.ptr 0 0 0 0), (AV.ofl 1 2)]), Ob.no, (Ob.f 5 1 es12)]) ∧ ((((0 : Int) ≤ n11) ∧ (n11 ≤ (((ByteArray.size s4) : Nat) : Int))) ∧ (print_Quoted_L0 R (ByteArray.extract s4 (Int.toNat n11) (ByteArray.size s4)) es12)))))))))) ∧ (((n10 == 65533) = false) → (∃ s9 : ByteArray, ((Fn Tryz.prog 66 [(TV.one (AV.fz (FV.int .i32 n10)))] [] (TV.one (AV.fz (FV.str s9))) []) ∧ (∃ es13 : List (List FV), (∃ n14 : Int, ((Fn Tryz.prog 65 [(TV.one (AV.ptr 0 0 0 0)), (TV.one (AV.fz (FV.str s9)))] [(Ob.g 88 [(AV.ptr 0 0 0 0), (AV.ofl 1 1)]), (Ob.f 5 1 es)] (TV.tup [(false, [(AV.fz (FV.int .i64 n14))]), (false, [(AV.fz (FV.ifc false))])]) [(Ob.g 88 [(AV.ptr 0 0 0 0), (AV.ofl 1 2)]), Ob.no, (Ob.f 5 1 es13)]) ∧ ((((0 : Int) ≤ n11) ∧ (n11 ≤ (((ByteArray.size s4) : Nat) : Int))) ∧ (print_Quoted_L0 R (ByteArray.extract s4 (Int.toNat n11) (ByteArray.size s4)) es13))))))))))))) ∧ (((decide ((0 : Int) < (((ByteArray.size s4) : Nat) : Int))) = false) → (∃ es14 : List (List FV), ((Fn Tryz.prog 63 [(TV.one (AV.ptr 0 0 0 0)), (TV.one (AV.fz (FV.int .u8 34)))] [(Ob.g 88 [(AV.ptr 0 0 0 0), (AV.ofl 1 1)]), (Ob.f 5 1 es)] (TV.one (AV.fz (FV.ifc false))) [(Ob.g 88 [(AV.ptr 0 0 0 0), (AV.ofl 1 2)]), Ob.no, (Ob.f 5 1 es14)]) ∧ (∃ es15 : List (List FV), (∃ s10 : ByteArray, ((Fn Tryz.prog 59 [(TV.one (AV.ptr 0 0 0 0))] [(Ob.g 88 [(AV.ptr 0 0 0 0), (AV.ofl 1 1)]), (Ob.f 5 1 es14)] (TV.one (AV.fz (FV.str s10))) [(Ob.g 88 [(AV.ptr 0 0 0 0), (AV.ofl 1 1)]), (Ob.z 1 es15)]) ∧ (R (TV.one (AV.fz (FV.str s10))) []))))))))
theorem print_Quoted_l0 {R : TV → List Ob → Prop} {s4 : ByteArray} {es : List (List FV)} (h : print_Quoted_R0 R s4 es) : print_Quoted_L0 R s4 es :=
  LoopAt.by_tr (by kernel_rfl) (by kernel_rfl) h
def print_Quoted_H (R : TV → List Ob → Prop) (s : ByteArray) : Prop :=
  (∃ es11 : List (List FV), ((Fn Tryz.prog 63 [(TV.one (AV.ptr 0 0 0 0)), (TV.one (AV.fz (FV.int .u8 34)))] [(Ob.g 88 [(AV.fz FV.nilp), (AV.nsl 1)])] (TV.one (AV.fz (FV.ifc false))) [(Ob.g 88 [(AV.ptr 0 0 0 0), (AV.ofl 1 1)]), (Ob.f 5 1 es11)]) ∧ (print_Quoted_L0 R s es11)))
theorem print_Quoted_fn (s : ByteArray) {r : TV} {h : List Ob} (H : print_Quoted_H (fun r' h' => r' = r ∧ h' = h) s) : Fn Tryz.prog 24 [(TV.one (AV.fz (FV.str s)))] [] r h :=
  Fn.by_tr (M := (modeOf [] [(63, [(Sig.mk 1 [(false, [(AT.a (AV.fz (FV.ifc false)))])] [(OT.g 88 [(AT.a (AV.ptr 0 0 0 0)), (AT.a (AV.ofl 1 1))]), (OT.f 5 1)] 0), (Sig.mk 2 [(false, [(AT.a (AV.fz (FV.ifc false)))])] [(OT.g 88 [(AT.a (AV.ptr 0 0 0 0)), (AT.a (AV.ofl 1 2))]), OT.no, (OT.f 5 1)] 0)]), (65, [(Sig.mk 1 [(false, [(AT.k (CK.int .i64))]), (false, [(AT.a (AV.fz (FV.ifc false)))])] [(OT.g 88 [(AT.a (AV.ptr 0 0 0 0)), (AT.a (AV.ofl 1 1))]), (OT.f 5 1)] 0), (Sig.mk 2 [(false, [(AT.k (CK.int .i64))]), (false, [(AT.a (AV.fz (FV.ifc false)))])] [(OT.g 88 [(AT.a (AV.ptr 0 0 0 0)), (AT.a (AV.ofl 1 2))]), OT.no, (OT.f 5 1)] 0)]), (59, [(Sig.mk 2 [(false, [(AT.k CK.str)])] [(OT.g 88 [(AT.a (AV.ptr 0 0 0 0)), (AT.a (AV.ofl 1 1))]), (OT.z 1)] 0)])])) (lv := print_Quoted_lv) (own := none) (F := Tryz.f24) (by kernel_rfl) (by kernel_rfl) (by first | decide | simp) (fun _ _ h => h) (by kernel_rfl) H
def print_Print_lv : List Nat → Keep := lvOf []
def print_Print_H (R : TV → List Ob → Prop) (d0 : Int) (d1 : ByteArray) (d2 : Bool) (d3 : List (List FV)) (d4 : List (List FV)) (d5 : Int) : Prop :=
  (∃ b1 : Bool, ((Fn Tryz.prog 57 [(TV.agg [(AV.fz (FV.int .i64 d0)), (AV.fz (FV.str d1)), (AV.fz (FV.bool d2)), (AV.fz (FV.sl 1 d3)), (AV.fz (FV.sl 6 d4)), (AV.fz (FV.int .i64 d5))])] [] (TV.one (AV.fz (FV.bool b1))) []) ∧ ((((Bool.not b1) = true) → (R (TV.tup [(false, [(AV.fz (FV.str (ByteArray.mk #[])))]), (false, [(AV.fz (FV.int .i64 2))])]) [])) ∧ (((Bool.not b1) = false) → (∃ es2 : List (List FV), ((Fn Tryz.prog 58 [(TV.one (AV.ptr 0 0 0 0)), (TV.agg [(AV.fz (FV.int .i64 d0)), (AV.fz (FV.str d1)), (AV.fz (FV.bool d2)), (AV.fz (FV.sl 1 d3)), (AV.fz (FV.sl 6 d4)), (AV.fz (FV.int .i64 d5))])] [(Ob.g 90 [(AV.fz FV.nilp), (AV.nsl 1)])] (TV.tup []) [(Ob.g 90 [(AV.ptr 0 0 0 0), (AV.ofl 1 1)]), (Ob.f 5 1 es2)]) ∧ (∃ es3 : List (List FV), (∃ s1 : ByteArray, ((Fn Tryz.prog 59 [(TV.one (AV.ptr 0 0 0 0))] [(Ob.g 90 [(AV.ptr 0 0 0 0), (AV.ofl 1 1)]), (Ob.f 5 1 es2)] (TV.one (AV.fz (FV.str s1))) [(Ob.g 90 [(AV.ptr 0 0 0 0), (AV.ofl 1 1)]), (Ob.z 1 es3)]) ∧ (R (TV.tup [(false, [(AV.fz (FV.str s1))]), (false, [(AV.fz (FV.int .i64 0))])]) []))))))))))
theorem print_Print_fn (d0 : Int) (d1 : ByteArray) (d2 : Bool) (d3 : List (List FV)) (d4 : List (List FV)) (d5 : Int) {r : TV} {h : List Ob} (H : print_Print_H (fun r' h' => r' = r ∧ h' = h) d0 d1 d2 d3 d4 d5) : Fn Tryz.prog 20 [(TV.agg [(AV.fz (FV.int .i64 d0)), (AV.fz (FV.str d1)), (AV.fz (FV.bool d2)), (AV.fz (FV.sl 1 d3)), (AV.fz (FV.sl 6 d4)), (AV.fz (FV.int .i64 d5))])] [] r h :=
  Fn.by_tr (M := (modeOf [] [(59, [(Sig.mk 2 [(false, [(AT.k CK.str)])] [(OT.g 90 [(AT.a (AV.ptr 0 0 0 0)), (AT.a (AV.ofl 1 1))]), (OT.z 1)] 0)]), (58, [(Sig.mk 1 [] [(OT.g 90 [(AT.a (AV.ptr 0 0 0 0)), (AT.a (AV.ofl 1 1))]), (OT.f 5 1)] 0), (Sig.mk 2 [] [(OT.g 90 [(AT.a (AV.ptr 0 0 0 0)), (AT.a (AV.ofl 1 2))]), OT.no, (OT.f 5 1)] 0)])])) (lv := print_Print_lv) (own := none) (F := Tryz.f20) (by kernel_rfl) (by kernel_rfl) (by first | decide | simp) (fun _ _ h => h) (by kernel_rfl) H
end Go.Proofs.YtejefchehdifhaaGreatDoor.Ev
end
section
set_option linter.unusedVariables false
set_option linter.unusedSimpArgs false
namespace Go.Proofs.YtejefchehdifhaaGreatDoor.Ev
open Go Go.RowKit
theorem encode_ok {c : Int} (hc : scalB c = true) : Utf8.encode c = bytesOf (utfB c) := by
  obtain ⟨h0, h1, h2⟩ := scal_in hc
  obtain ⟨n, rfl⟩ := Int.eq_ofNat_of_zero_le h0
  have hv : Utf8.valid (n : Int) = true := by unfold Utf8.valid; simp; omega
  unfold Utf8.encode utfB
  simp only [hv, if_true, Int.toNat_natCast]
  repeat' split
  all_goals try omega
  all_goals
    unfold bytesOf
    congr 1
theorem escape_ok (c : Int) (hc : scalB c = true) : Fn Tryz.prog 66 [fzI .i32 c] [] (.one (.fz (.str (bytesOf (escL c))))) [] := by
  obtain ⟨h0, h1, _⟩ := scal_in hc
  refine print_escape_fn _ ?_
  obtain ⟨R, hR, hRe⟩ := exR (.one (.fz (.str (bytesOf (escL c))))); rw [hRe]; clear hRe
  unfold print_escape_H
  simp only [beq_t, beq_f, dec_t, dec_f]
  have hu := utfB_le c
  have e92 : ByteArray.mk #[92] = bytesOf [92] := by decide +kernel
  have slash : c = 92 ∨ c = 34 → ((ByteArray.size (ByteArray.mk #[92]) + ByteArray.size (Utf8.encode c)) ≤ 9223372036854775807) ∧ R (.one (.fz (.str (ByteArray.mk #[92] ++ Utf8.encode c)))) [] := fun h => by
    rw [encode_ok hc, e92, size_of, size_of, app_of]
    have : escL c = [92] ++ utfB c := by unfold escL; rw [if_pos h]; rcases h with rfl | rfl <;> rfl
    rw [← this]
    exact ⟨by simp only [List.length_cons, List.length_nil]; omega, hR⟩
  have hex : (c < 32 ∨ c = 127) → escL c = [92, 120] ++ hexT c ++ [59] → ∃ s2 : ByteArray, (Fn Tryz.prog 100 [.one (.fz (.int .i64 (IntKind.wrap .i64 c))), .one (.fz (.int .i64 16))] [] (.one (.fz (.str s2))) []) ∧ ((ByteArray.size (ByteArray.mk #[92, 120]) + ByteArray.size s2) ≤ 9223372036854775807) ∧ ((ByteArray.size (ByteArray.mk #[92, 120] ++ s2) + ByteArray.size (ByteArray.mk #[59])) ≤ 9223372036854775807) ∧ R (.one (.fz (.str ((ByteArray.mk #[92, 120] ++ s2) ++ ByteArray.mk #[59])))) [] := fun h hE => by
    have h2 := (hexT_bytes (c := c) h0 (by omega)).2
    rw [w64 (n := c) (by omega) (by omega), show ByteArray.mk #[92, 120] = bytesOf [92, 120] from by decide +kernel, show ByteArray.mk #[59] = bytesOf [59] from by decide +kernel]
    refine ⟨_, FormatInt_ok c h0 (by omega), ?_, ?_, ?_⟩
    · rw [size_of, size_of]; simp; omega
    · rw [app_of, size_of, size_of]; simp; omega
    · rw [app_of, app_of, ← hE]; exact hR
  refine ⟨fun c1 => slash (.inl c1), fun c1 => ⟨fun c2 => slash (.inr c2), fun c2 => ⟨fun c3 => ?_, fun c3 => ⟨fun c4 => ?_, fun c4 => ⟨fun c5 => ?_, fun c5 => ⟨fun c6 => hex (.inl c6) ?_, fun c6 => ⟨fun c7 => hex (.inr c7) ?_, fun c7 => ?_⟩⟩⟩⟩⟩⟩⟩
  all_goals clear slash hex
  · unfold escL at hR; rw [if_neg (by omega), if_pos c3] at hR
    rw [show ByteArray.mk #[92, 110] = bytesOf [92, 110] from by decide +kernel]; exact hR
  · unfold escL at hR; rw [if_neg (by omega), if_neg c3, if_pos c4] at hR
    rw [show ByteArray.mk #[92, 116] = bytesOf [92, 116] from by decide +kernel]; exact hR
  · unfold escL at hR; rw [if_neg (by omega), if_neg c3, if_neg c4, if_pos c5] at hR
    rw [show ByteArray.mk #[92, 114] = bytesOf [92, 114] from by decide +kernel]; exact hR
  · unfold escL; rw [if_neg (by omega), if_neg c3, if_neg c4, if_neg c5, if_pos (.inl c6)]
  · unfold escL; rw [if_neg (by omega), if_neg c3, if_neg c4, if_neg c5, if_pos (.inr c7)]
  · unfold escL at hR; rw [if_neg (by omega), if_neg c3, if_neg c4, if_neg c5, if_neg (by omega)] at hR
    rw [encode_ok hc]; exact hR
theorem uName_ok (c : Int) (hc : scalB c = true) : Fn Tryz.prog 93 [fzI .i64 c] [] (.tup [(false, [.fz (.str (bytesOf (nameL c)))]), (false, [.fz (.int .i64 0)])]) [] := by
  obtain ⟨h0, h1, _⟩ := scal_in hc
  refine utf_Name_fn _ ?_
  obtain ⟨R, hR, hRe⟩ := exR (.tup [(false, [.fz (.str (bytesOf (nameL c)))]), (false, [.fz (.int .i64 0)])]); rw [hRe]; clear hRe
  unfold nameL at hR
  unfold utf_Name_H
  have hS := uScalar_ok c
  rw [hc] at hS
  refine ⟨_, hS, fun h => absurd h (by decide), fun _ => ?_⟩
  have step : ∀ (i : Int) (k : Int) (A : Array UInt8), 0 ≤ i → i < 6 →
      cutT [(AV.fz (.int .i64 32)), (.fz (.str (ByteArray.mk #[115, 112, 97, 99, 101]))), (.fz (.int .i64 10)), (.fz (.str (ByteArray.mk #[110, 101, 119, 108, 105, 110, 101]))), (.fz (.int .i64 9)), (.fz (.str (ByteArray.mk #[116, 97, 98]))), (.fz (.int .i64 13)), (.fz (.str (ByteArray.mk #[114, 101, 116, 117, 114, 110]))), (.fz (.int .i64 0)), (.fz (.str (ByteArray.mk #[110, 117, 108, 108]))), (.fz (.int .i64 127)), (.fz (.str (ByteArray.mk #[100, 101, 108, 101, 116, 101])))] ((Int.toNat i) * 2) 2 [.int .i64 k, .str (ByteArray.mk A)] →
      (k = c → R (.tup [(false, [.fz (.str (ByteArray.mk A))]), (false, [.fz (.int .i64 0)])]) []) → (k ≠ c → utf_Name_L0 R c (IntKind.wrap .i64 (i + 1))) → utf_Name_L0 R c i := fun i k A a0 a1 hcut hy hn => by
    refine utf_Name_l0 ?_
    unfold utf_Name_R0
    refine ⟨fun _ => ⟨⟨a0, a1⟩, _, _, hcut, fun e => hy (by simpa using e), fun e => hn (by simpa using e)⟩, fun h => absurd a1 (by simpa using h)⟩
  refine step 0 32 _ (by omega) (by omega) rfl (fun e => ?_) fun c1 => ?_
  · rw [if_pos e.symm] at hR; rw [nm0.2]; exact hR
  rw [if_neg (fun e => c1 e.symm)] at hR
  refine step 1 10 _ (by omega) (by omega) rfl (fun e => ?_) fun c2 => ?_
  · rw [if_pos e.symm] at hR; rw [nm1.2]; exact hR
  rw [if_neg (fun e => c2 e.symm)] at hR
  refine step 2 9 _ (by omega) (by omega) rfl (fun e => ?_) fun c3 => ?_
  · rw [if_pos e.symm] at hR; rw [nm2.2]; exact hR
  rw [if_neg (fun e => c3 e.symm)] at hR
  refine step 3 13 _ (by omega) (by omega) rfl (fun e => ?_) fun c4 => ?_
  · rw [if_pos e.symm] at hR; rw [nm3.2]; exact hR
  rw [if_neg (fun e => c4 e.symm)] at hR
  refine step 4 0 _ (by omega) (by omega) rfl (fun e => ?_) fun c5 => ?_
  · rw [if_pos e.symm] at hR; rw [nm4.2]; exact hR
  rw [if_neg (fun e => c5 e.symm)] at hR
  refine step 5 127 _ (by omega) (by omega) rfl (fun e => ?_) fun c6 => ?_
  · rw [if_pos e.symm] at hR; rw [nm5.2]; exact hR
  rw [if_neg (fun e => c6 e.symm)] at hR
  refine utf_Name_l0 ?_
  unfold utf_Name_R0
  refine ⟨fun h => absurd h (by decide), fun _ => ?_⟩
  simp only [dec_t, dec_f]
  refine ⟨fun h => ?_, fun h => ?_⟩
  · rw [if_pos h] at hR
    refine ⟨_, FormatInt_ok c h0 (by omega), ?_, ?_⟩
    · have := (hexT_bytes (c := c) h0 (by omega)).2
      rw [size_of, show (ByteArray.mk #[120]).size = 1 from rfl]; omega
    · rw [x_of]; exact hR
  · rw [if_neg h] at hR
    rw [show IntKind.wrap .i32 c = c from IntWalk.i32_in c ⟨by omega, by omega⟩, encode_ok hc]
    exact hR
theorem deN_pos {l : List Int} (hne : l ≠ []) : 1 ≤ deN l := by
  have hl : l.length ≠ 0 := fun h => hne (List.length_eq_zero_iff.1 h)
  unfold deN Lib.decodeGo
  rw [if_neg (by rw [size_of]; omega), Lib.decode_at]
  unfold Lib.decodeN
  repeat' split
  all_goals (simp only; omega)
theorem escL_bytes {c : Int} (hc : scalB c = true) : Bytes (escL c) := by
  obtain ⟨h0, h1, _⟩ := scal_in hc
  unfold escL
  repeat' split
  · intro x hx; simp at hx; omega
  · intro x hx; simp at hx; omega
  · intro x hx; simp at hx; omega
  · intro x hx; simp at hx; omega
  · rename_i h
    have := (hexT_bytes (c := c) h0 (by omega)).1
    intro x hx
    simp only [List.mem_append, List.mem_cons, List.not_mem_nil, or_false] at hx
    rcases hx with (hx | hx) | hx
    · omega
    · exact this x hx
    · omega
  · exact utfB_bytes hc
theorem bytes_cut {l : List Int} (hl : Bytes l) (m : Int) (h0 : 0 ≤ m) (h1 : m ≤ l.length) : (bytesOf l).extract (Int.toNat m) (bytesOf l).size = bytesOf (l.drop m.toNat) := by
  rw [extract_of, size_of, List.take_of_length_le (by rw [List.length_drop]; omega)]
theorem pQuoted_loop (R : TV → List Ob → Prop) : ∀ (f : Nat) (l out : List Int), l.length < f → Bytes l → Bytes out → out ≠ [] → out.length + 7 * l.length ≤ 90000000 →
    R (.one (.fz (.str (bytesOf (out ++ quoS f l))))) [] → print_Quoted_L0 R (bytesOf l) (ints .u8 out) := by
  intro f
  induction f with
  | zero => intro l out hf; omega
  | succ f ih =>
    intro l out hf hl hout hon ho hR
    refine print_Quoted_l0 ?_
    unfold print_Quoted_R0
    simp only [size_of, beq_t, beq_f, dec_t, dec_f]
    unfold quoS at hR
    by_cases hne : l = []
    · subst hne
      rw [if_pos rfl] at hR
      refine ⟨fun h => absurd h (by simp), fun _ => ⟨_, writeByteU_ok 34 out (by simp at ho; omega), _, _, stringU_ok (out ++ [34]) (by simp) ?_ (by simp at ho ⊢; omega), hR⟩⟩
      intro x hx
      rcases List.mem_append.1 hx with h | h
      · exact hout x h
      · simp at h; omega
    · have hl0 : l.length ≠ 0 := fun h => hne (List.length_eq_zero_iff.1 h)
      rw [if_neg hne] at hR
      have hbd := ch1_bounds hl hne
      have htk := ch1_take hl hne
      have hsc := ch1_scal hl hne
      refine ⟨fun _ => ⟨_, _, DecodeInString_fn l, ?_⟩, fun h => absurd h (by omega)⟩
      have step : ∀ (n : Int) (E : List Int), 1 ≤ n → n ≤ l.length → Bytes E → (E.length : Int) ≤ 7 * n → R (.one (.fz (.str (bytesOf (out ++ (E ++ quoS f (l.drop n.toNat))))))) [] → ∃ es13 : List (List FV), ∃ n14 : Int, (Fn Tryz.prog 65 [p0, .one (.fz (.str (bytesOf E)))] (bU out) (.tup [(false, [.fz (.int .i64 n14)]), (false, [.fz (.ifc false)])]) [.g 88 [.ptr 0 0 0 0, .ofl 1 2], .no, .f 5 1 es13]) ∧ ((0 : Int) ≤ n ∧ n ≤ ((l.length : Nat) : Int)) ∧ print_Quoted_L0 R ((bytesOf l).extract (Int.toNat n) l.length) es13 := fun n E hn0 hn1 hE hEl hRE => by
        have w := writeStringU_ok (bytesOf E) out (by rw [bs_of hE]; omega) (by omega)
        rw [bs_of hE] at w
        refine ⟨_, _, w, ⟨by omega, hn1⟩, ?_⟩
        have ec := bytes_cut hl n (by omega) hn1
        rw [size_of] at ec
        rw [ec]
        refine ih _ _ (by rw [List.length_drop]; omega) (drop_bytes hl _) ?_ (by simp [hon]) (by rw [List.length_append, List.length_drop]; omega) (by rw [List.append_assoc]; exact hRE)
        intro x hx
        rcases List.mem_append.1 hx with h | h
        · exact hout x h
        · exact hE x h
      rcases de_ch1 hl hne with ⟨e1, e2, e3⟩ | ⟨e1, e2⟩
      · rw [e1] at hR
        rw [if_pos rfl] at hR
        rw [e2, e3]
        refine ⟨fun _ => ⟨fun _ => ⟨⟨by omega, by omega⟩, ?_⟩, fun h => absurd h (by omega)⟩, fun h => absurd rfl h⟩
        have ex : (bytesOf l).extract 0 (Int.toNat 1) = bytesOf [rd l 0] := by
          rw [extract_of]
          cases l with
          | nil => exact absurd rfl hne
          | cons a t => rfl
        rw [ex]
        refine step 1 [rd l 0] (by omega) (by omega) ?_ (by simp) hR
        intro x hx
        simp at hx
        rw [hx]; exact rd_byte hl 0
      · generalize hp : ch1 l = p at *
        obtain ⟨c, n⟩ := p
        obtain ⟨rfl, rfl⟩ := Prod.mk.inj e1
        simp only at hbd htk hsc hR
        have hn1 : 1 ≤ deN l := by
          exact deN_pos hne
        rw [if_neg (by omega)] at hR
        have hsc := hsc (by omega)
        have hS : ∃ s9 : ByteArray, (Fn Tryz.prog 66 [.one (.fz (.int .i32 (deR l)))] [] (.one (.fz (.str s9))) []) ∧ ∃ es13 : List (List FV), ∃ n14 : Int, (Fn Tryz.prog 65 [p0, .one (.fz (.str s9))] (bU out) (.tup [(false, [.fz (.int .i64 n14)]), (false, [.fz (.ifc false)])]) [.g 88 [.ptr 0 0 0 0, .ofl 1 2], .no, .f 5 1 es13]) ∧ ((0 : Int) ≤ deN l ∧ deN l ≤ ((l.length : Nat) : Int)) ∧ print_Quoted_L0 R ((bytesOf l).extract (Int.toNat (deN l)) l.length) es13 := by
          refine ⟨_, escape_ok _ hsc, step (deN l) (escL (deR l)) hn1 (by omega) (escL_bytes hsc) ?_ hR⟩
          have := escL_len (c := deR l) hbd.1
          omega
        refine ⟨fun a => ⟨fun b => absurd ⟨a, b⟩ e2, fun _ => hS⟩, fun _ => hS⟩
theorem pQuoted_ok (T : List Int) (hT : Bytes T) (hlen : 7 * T.length ≤ 80000000) : Fn Tryz.prog 24 [.one (.fz (.str (bytesOf T)))] [] (.one (.fz (.str (bytesOf (quoV T))))) [] := by
  refine print_Quoted_fn _ ?_
  obtain ⟨R, hR, hRe⟩ := exR (.one (.fz (.str (bytesOf (quoV T))))); rw [hRe]; clear hRe
  unfold print_Quoted_H
  refine ⟨_, writeByteF_ok 34, ?_⟩
  exact pQuoted_loop R (T.length + 1) T [34] (by omega) hT (by intro x hx; simp at hx; omega) (by simp) (by simp; omega) hR
end Go.Proofs.YtejefchehdifhaaGreatDoor.Ev
end
section
set_option linter.unusedVariables false
set_option linter.unusedSimpArgs false
namespace Go.Proofs.YtejefchehdifhaaGreatDoor.Ev
open Go
theorem utfB_ne (c : Int) : utfB c ≠ [] := by
  unfold utfB
  repeat' split
  all_goals simp
theorem ch1_utfB {c : Int} (hc : scalB c = true) (r : List Int) : ch1 (utfB c ++ r) = (c, ((utfB c).length : Int)) := by
  obtain ⟨h0, h1, h2⟩ := scal_in hc
  unfold utfB
  by_cases c1 : c < 128
  · rw [if_pos c1]
    rw [List.cons_append, ch1_ascii c1]; rfl
  · rw [if_neg c1]
    by_cases c2 : c < 2048
    · rw [if_pos c2]
      unfold ch1 chN
      simp only [List.cons_append, List.nil_append, rd, List.getD_cons_zero, List.getD_cons_succ, List.length_cons, List.length_nil]
      rw [if_neg (by omega), if_pos (by omega), if_pos (by omega)]
      refine Prod.ext ?_ rfl
      simp only
      omega
    · rw [if_neg c2]
      by_cases c3 : c < 65536
      · rw [if_pos c3]
        unfold ch1 chN
        simp only [List.cons_append, List.nil_append, rd, List.getD_cons_zero, List.getD_cons_succ, List.length_cons, List.length_nil]
        have e : ((224 + c / 4096 - 224) * 64 + (128 + c / 64 % 64) - 128) * 64 + (128 + c % 64) - 128 = c := by omega
        rw [if_neg (by omega), if_neg (by omega), if_pos (by omega), e, if_pos (by omega)]
        rfl
      · rw [if_neg c3]
        unfold ch1 chN
        simp only [List.cons_append, List.nil_append, rd, List.getD_cons_zero, List.getD_cons_succ, List.length_cons, List.length_nil]
        have e : (((240 + c / 262144 - 240) * 64 + (128 + c / 4096 % 64) - 128) * 64 + (128 + c / 64 % 64) - 128) * 64 + (128 + c % 64) - 128 = c := by omega
        rw [if_neg (by omega), if_neg (by omega), if_neg (by omega), if_pos (by omega), e, if_pos (by omega)]
        rfl
theorem chs_back : ∀ (f at_ : Nat) (l acc : List Int), Bytes l → at_ ≤ l.length → l.length - at_ < f → (chs f l at_ acc).2 = -1 → ∃ X, (chs f l at_ acc).1 = acc ++ X ∧ enc X = l.drop at_ ∧ Scals X
  | 0, at_, l, acc, hb, hl, hf, h => by omega
  | f + 1, at_, l, acc, hb, hl, hf, h => by
    unfold chs at h ⊢
    by_cases hc : l.length ≤ at_
    · rw [if_pos hc]
      exact ⟨[], by simp, by rw [List.drop_eq_nil_of_le hc]; rfl, by intro c hc; cases hc⟩
    · rw [if_neg hc] at h ⊢
      have hne : l.drop at_ ≠ [] := fun e => by have := congrArg List.length e; simp at this; omega
      have hbd := ch1_bounds (drop_bytes hb at_) hne
      rw [List.length_drop] at hbd
      by_cases h0 : (ch1 (l.drop at_)).2 = 0
      · rw [if_pos h0] at h
        simp only at h
        omega
      · rw [if_neg h0] at h ⊢
        obtain ⟨X, h1, h2, h3⟩ := chs_back f _ l (acc ++ [(ch1 (l.drop at_)).1]) hb (by omega) (by omega) h
        have ht := ch1_take (drop_bytes hb at_) hne h0
        refine ⟨(ch1 (l.drop at_)).1 :: X, by rw [h1]; simp, ?_, ?_⟩
        · rw [enc_cons, h2, ← ht, ← List.drop_drop, List.take_append_drop]
        · intro c hc'
          rcases List.mem_cons.1 hc' with rfl | hc'
          · exact ch1_scal (drop_bytes hb at_) hne h0
          · exact h3 c hc'
theorem chars_back {T : List Int} (hT : Bytes T) (h : (chars T).2 = -1) : enc (chars T).1 = T ∧ Scals (chars T).1 := by
  obtain ⟨X, h1, h2, h3⟩ := chs_back (T.length + 1) 0 T [] hT (by omega) (by omega) h
  have e : (chars T).1 = X := by unfold chars; rw [h1]; simp
  rw [e]
  exact ⟨by simpa using h2, h3⟩
end Go.Proofs.YtejefchehdifhaaGreatDoor.Ev
end
section
set_option linter.unusedVariables false
set_option linter.unusedSimpArgs false
namespace Go.Proofs.YtejefchehdifhaaGreatDoor.Ev
open Go Go.RowKit
abbrev fzD' (k : Int) (t : ByteArray) (n : Bool) (l : List Int) (ds : List Dt) (a : Int) : TV := .agg [.fz (.int .i64 k), .fz (.str t), .fz (.bool n), .fz (.sl 1 (ints .u32 l)), .fz (.sl 6 (Dt.rows ds)), .fz (.int .i64 a)]
def plB (t : ByteArray) (n : Bool) (l : List Int) (dn : Nat) (text number list : Bool) : Bool := (text || decide (bs t = [])) && ((number || (!n && decide (l.length = 0))) && (list || decide (dn = 0)))
theorem empty_eq (t : ByteArray) : ((ByteArray.toList t) == (ByteArray.toList (ByteArray.mk #[]))) = decide (bs t = []) := by
  have := eq_bytes (m := []) (bs_bytes t) Bytes.nil
  rw [of_bs] at this
  exact this
theorem len_beq (n : Nat) : (((n : Nat) : Int) == 0) = decide (n = 0) := by
  rw [Bool.eq_iff_iff]; simp
theorem rdPlain_ok (k : Int) (t : ByteArray) (n : Bool) (l : List Int) (ds : List Dt) (a : Int) (text number list : Bool) : Fn Tryz.prog 123 [fzD' k t n l ds a, fzB text, fzB number, fzB list] [] (fzB (plB t n l ds.length text number list)) [] := by
  refine read_plain_fn _ _ _ _ _ _ _ _ _ ?_
  obtain ⟨R, hR, hRe⟩ : ∃ R : TV → List Ob → Prop, R (fzB (plB t n l ds.length text number list)) [] ∧ (fun r' h' => r' = (fzB (plB t n l ds.length text number list)) ∧ h' = []) = R := ⟨_, ⟨rfl, rfl⟩, rfl⟩
  rw [hRe]
  clear hRe
  unfold read_plain_H
  rw [ints_len, rows_len, empty_eq, len_beq, len_beq]
  unfold plB at hR
  generalize decide (bs t = []) = x at *
  generalize decide (l.length = 0) = y at *
  generalize decide (ds.length = 0) = z at *
  cases n <;> cases text <;> cases number <;> cases list <;> cases x <;> cases y <;> simp_all
theorem rBare_ok (k : Int) (t : ByteArray) (n : Bool) (l : List Int) (ds : List Dt) (a : Int) (text number list : Bool) : Fn Tryz.prog 95 [fzD' k t n l ds a, fzB text, fzB number, fzB list] [] (fzB (plB t n l ds.length text number list)) [] := by
  refine ref02_bare_fn _ _ _ _ _ _ _ _ _ ?_
  obtain ⟨R, hR, hRe⟩ : ∃ R : TV → List Ob → Prop, R (fzB (plB t n l ds.length text number list)) [] ∧ (fun r' h' => r' = (fzB (plB t n l ds.length text number list)) ∧ h' = []) = R := ⟨_, ⟨rfl, rfl⟩, rfl⟩
  rw [hRe]
  clear hRe
  unfold ref02_bare_H
  rw [ints_len, rows_len, empty_eq, len_beq, len_beq]
  unfold plB at hR
  generalize decide (bs t = []) = x at *
  generalize decide (l.length = 0) = y at *
  generalize decide (ds.length = 0) = z at *
  cases n <;> cases text <;> cases number <;> cases list <;> cases x <;> cases y <;> simp_all
def rcN (T : List Int) : Int := if 65536 < T.length then -1 else if (chars T).2 = -1 then ((chars T).1.length : Int) else -1
theorem rdChars_ok (t : ByteArray) : Fn Tryz.prog 141 [.one (.fz (.str t))] [] (fzI .i64 (rcN (bs t))) [] := by
  refine read_chars_fn _ ?_
  unfold read_chars_H rcN
  rw [map_bs]
  refine ⟨_, _, _, utfDecode_ok (bs t) (bs_bytes t), ?_⟩
  rw [bne_t, bne_f, ints_len]
  unfold decE decL
  by_cases h : 65536 < (bs t).length
  · simp [h]
  · by_cases h2 : (chars (bs t)).2 = -1
    · simp [h, h2]
    · simp [h, h2]
theorem chs_four : ∀ (f at_ : Nat) (l acc : List Int), Bytes l → l.length - at_ < f → at_ ≤ l.length → (chs f l at_ acc).2 = -1 → l.length - at_ + 4 * acc.length ≤ 4 * (chs f l at_ acc).1.length
  | 0, at_, l, acc, hb, hf, ha, h => by omega
  | f + 1, at_, l, acc, hb, hf, ha, h => by
    unfold chs at h ⊢
    split
    · simp only; omega
    · rename_i h1
      rw [if_neg h1] at h
      have hne : l.drop at_ ≠ [] := fun e => by have := congrArg List.length e; simp at this; omega
      have hbd := ch1_bounds (drop_bytes hb at_) hne
      rw [List.length_drop] at hbd
      split
      · rename_i h2
        rw [if_pos h2] at h
        simp only at h
        omega
      · rename_i h2
        rw [if_neg h2] at h
        have := chs_four f (at_ + (ch1 (l.drop at_)).2.toNat) l (acc ++ [(ch1 (l.drop at_)).1]) hb (by omega) (by omega) h
        rw [List.length_append, List.length_singleton] at this
        omega
theorem chars_four {l : List Int} (hb : Bytes l) (h : (chars l).2 = -1) : l.length ≤ 4 * (chars l).1.length := by
  have := chs_four (l.length + 1) 0 l [] hb (by omega) (by omega) h
  unfold chars
  simpa using this
def leafB (k : Int) (t : ByteArray) (n : Bool) (l : List Int) (dn : Nat) : Bool :=
  if k = 4 then decide (atomK (bs t) = 4) && plB t n l dn true false false
  else if k = 5 then decide (0 ≤ rcN (bs t) ∧ rcN (bs t) ≤ 4096) && plB t n l dn true false false
  else if k = 6 then decide (rcN (bs t) = 1) && plB t n l dn true false false
  else if k = 7 then sndB n l && plB t n l dn false true false
  else if k = 11 then plB t n l dn true false false
  else if k = 8 ∨ k = 9 ∨ k = 10 then plB t n l dn false false false
  else false
set_option maxHeartbeats 1000000 in
theorem rdLeaf_ok (k : Int) (t : ByteArray) (n : Bool) (l : List Int) (ds : List Dt) (a : Int) (ht : t.size ≤ 1048576) (hl : l.length * 4 ≤ 140737488355328) : Fn Tryz.prog 122 [fzD' k t n l ds a] [] (fzB (leafB k t n l ds.length)) [] := by
  refine read_leaf_fn _ _ _ _ _ _ ?_
  obtain ⟨R, hR, hRe⟩ : ∃ R : TV → List Ob → Prop, R (fzB (leafB k t n l ds.length)) [] ∧ (fun r' h' => r' = (fzB (leafB k t n l ds.length)) ∧ h' = []) = R := ⟨_, ⟨rfl, rfl⟩, rfl⟩
  rw [hRe]
  clear hRe
  unfold read_leaf_H
  unfold leafB at hR
  have hA := tAtom_ok (bs t) (bs_bytes t) (by rw [← size_bs]; omega)
  rw [of_bs] at hA
  simp only [beq_t, beq_f]
  refine ⟨fun h => ⟨_, _, _, _, _, _, _, hA, fun h2 => ⟨fun h3 => ⟨_, rdPlain_ok k t n l ds a _ _ _, ?_⟩, fun h3 => ?_⟩, fun h2 => ?_⟩, fun k4 => ⟨fun h => ⟨_, rdChars_ok t, ?_⟩, fun k5 => ⟨fun h => ⟨_, rdChars_ok t, ?_⟩, fun k6 => ⟨fun h => ⟨_, sound_ok n l (by omega), ?_⟩, fun k7 => ⟨fun h => ⟨_, rdPlain_ok k t n l ds a _ _ _, ?_⟩, fun k11 => ⟨fun h => ⟨_, rdPlain_ok k t n l ds a _ _ _, ?_⟩, fun k8 => ⟨fun h => ⟨_, rdPlain_ok k t n l ds a _ _ _, ?_⟩, fun k9 => ⟨fun h => ⟨_, rdPlain_ok k t n l ds a _ _ _, ?_⟩, fun k10 => ?_⟩⟩⟩⟩⟩⟩⟩⟩
  · rw [if_pos h, decide_eq_true h3, Bool.true_and] at hR; exact hR
  · rw [if_pos h, decide_eq_false h3, Bool.false_and] at hR; exact hR
  · have : ¬ atomK (bs t) = 4 := fun h4 => by rw [h4] at h2; simp at h2
    rw [if_pos h, decide_eq_false this, Bool.false_and] at hR; exact hR
  · rw [if_neg k4, if_pos h] at hR
    rw [dec_t, dec_f, dec_t, dec_f]
    refine ⟨fun h2 => ⟨fun h3 => ⟨_, rdPlain_ok k t n l ds a _ _ _, ?_⟩, fun h3 => ?_⟩, fun h2 => ?_⟩
    · rw [decide_eq_true ⟨h2, h3⟩, Bool.true_and] at hR; exact hR
    · rw [decide_eq_false (fun hx => h3 hx.2), Bool.false_and] at hR; exact hR
    · rw [decide_eq_false (fun hx => h2 hx.1), Bool.false_and] at hR; exact hR
  · rw [if_neg k4, if_neg k5, if_pos h] at hR
    refine ⟨fun h2 => ⟨_, rdPlain_ok k t n l ds a _ _ _, ?_⟩, fun h2 => ?_⟩
    · rw [decide_eq_true h2, Bool.true_and] at hR; exact hR
    · rw [decide_eq_false h2, Bool.false_and] at hR; exact hR
  · rw [if_neg k4, if_neg k5, if_neg k6, if_pos h] at hR
    refine ⟨fun h2 => ⟨_, rdPlain_ok k t n l ds a _ _ _, ?_⟩, fun h2 => ?_⟩
    · rw [h2, Bool.true_and] at hR; exact hR
    · rw [h2, Bool.false_and] at hR; exact hR
  · rw [if_neg k4, if_neg k5, if_neg k6, if_neg k7, if_pos h] at hR; exact hR
  · rw [if_neg k4, if_neg k5, if_neg k6, if_neg k7, if_neg k11, if_pos (.inl h)] at hR; exact hR
  · rw [if_neg k4, if_neg k5, if_neg k6, if_neg k7, if_neg k11, if_pos (.inr (.inl h))] at hR; exact hR
  · rw [if_neg k4, if_neg k5, if_neg k6, if_neg k7, if_neg k11, if_pos (.inr (.inr h))] at hR; exact hR
  · rw [if_neg k4, if_neg k5, if_neg k6, if_neg k7, if_neg k11, if_neg (by omega)] at hR; exact hR
def Dt.kind : Dt → Int
  | .mk k _ _ _ _ _ => k
def dotB (k : Int) (ds : List Dt) : Bool := if k = 2 then match ds.getLast? with
  | some x => decide (2 ≤ ds.length) && (decide (x.kind ≠ 1) && decide (x.kind ≠ 2))
  | none => false
  else true
mutual
def Dt.meas : Dt → Int → Int → Int
  | .mk k t n l ds a, dp, room =>
    if 64 < dp ∨ room < 1 then -1
    else if k = 1 ∨ k = 3 ∨ k = 2 then (if (plB t n l ds.length false false true && dotB k ds) = true then Dt.measL ds (dp + 1) room 1 else -1)
    else if leafB k t n l ds.length = true then 1 else -1
def Dt.measL : List Dt → Int → Int → Int → Int
  | [], _, _, n => n
  | x :: xs, dp, room, n => if x.meas dp (room - n) < 0 then -1 else Dt.measL xs dp room (n + x.meas dp (room - n))
end
mutual
theorem meas_le : ∀ (x : Dt) (dp room : Int), x.meas dp room = -1 ∨ (1 ≤ x.meas dp room ∧ x.meas dp room ≤ room)
  | .mk k t n l ds a, dp, room => by
    unfold Dt.meas
    split
    · exact .inl rfl
    · rename_i h
      split
      · split
        · exact measL_le ds (dp + 1) room 1 (by omega) (by omega)
        · exact .inl rfl
      · split
        · right; omega
        · exact .inl rfl
theorem measL_le : ∀ (xs : List Dt) (dp room n : Int), 1 ≤ n → n ≤ room → Dt.measL xs dp room n = -1 ∨ (1 ≤ Dt.measL xs dp room n ∧ Dt.measL xs dp room n ≤ room)
  | [], dp, room, n, h0, h1 => by unfold Dt.measL; exact .inr ⟨h0, h1⟩
  | x :: xs, dp, room, n, h0, h1 => by
    have hx := meas_le x dp (room - n)
    unfold Dt.measL
    split
    · exact .inl rfl
    · exact measL_le xs dp room _ (by omega) (by omega)
end
theorem rows_last {ds : List Dt} {x : Dt} (h : ds.getLast? = some x) : ds.length ≠ 0 ∧ (Dt.rows ds)[ds.length - 1]? = some x.row := by
  have hne : ds ≠ [] := fun e => by rw [e] at h; cases h
  refine ⟨fun e => hne (List.length_eq_zero_iff.1 e), drow_at ?_⟩
  rw [← List.getLast?_eq_getElem?]; exact h
theorem getLast_some {ds : List Dt} (h : 2 ≤ ds.length) : ∃ x, ds.getLast? = some x := by
  cases hx : ds.getLast? with
  | some x => exact ⟨x, rfl⟩
  | none => rw [List.getLast?_eq_none_iff] at hx; subst hx; simp at h
theorem dotB_some {xs : List Dt} {x : Dt} (hx : xs.getLast? = some x) : dotB 2 xs = (decide (2 ≤ xs.length) && (decide (x.kind ≠ 1) && decide (x.kind ≠ 2))) := by
  unfold dotB; rw [if_pos rfl, hx]
theorem dotB_short {xs : List Dt} (h : xs.length < 2) : dotB 2 xs = false := by
  unfold dotB
  rw [if_pos rfl]
  cases xs.getLast? with
  | none => rfl
  | some x => simp only; rw [decide_eq_false (by omega), Bool.false_and]
theorem dotB_ne {k : Int} {xs : List Dt} (h : k ≠ 2) : dotB k xs = true := if_neg h
theorem rdMeasure_loop (k : Int) (t : ByteArray) (n : Bool) (l : List Int) (a : Int) (xs : List Dt) (hl : xs.length * 88 ≤ 140737488355328) (dp room : Int) (hd0 : 0 ≤ dp) (hd1 : dp ≤ 64) (hr : room ≤ 8192)
    (hp : ∀ x ∈ xs, ∀ r : Int, r ≤ 8192 → -8192 ≤ r → Fn Tryz.prog 91 [fzD x, fzI .i64 (dp + 1), fzI .i64 r] [] (fzI .i64 (x.meas (dp + 1) r)) [])
    (R : TV → List Ob → Prop) (hR : R (fzI .i64 (if (plB t n l xs.length false false true && dotB k xs) = true then Dt.measL xs (dp + 1) room 1 else -1)) []) :
    ∀ (d j : Nat) (m : Int), j + d = xs.length → 1 ≤ m → m ≤ room → Dt.measL xs (dp + 1) room 1 = Dt.measL (xs.drop j) (dp + 1) room m → read_measure_L0 R k t n (ints .u32 l) (Dt.rows xs) a dp room m j
  | 0, j, m, hj, h0, h1, h => by
    refine read_measure_l0 ?_
    unfold read_measure_R0
    rw [rows_len, dec_t, dec_f]
    refine ⟨fun h => by omega, fun _ => ⟨_, rdPlain_ok k t n l xs a _ _ _, ?_⟩⟩
    rw [h, List.drop_of_length_le (by omega)] at hR
    unfold Dt.measL at hR
    rw [not_t, not_f]
    refine ⟨fun h2 => ?_, fun h2 => ?_⟩
    · rw [h2] at hR; exact hR
    · rw [h2, Bool.true_and] at hR
      rw [beq_t, beq_f]
      refine ⟨fun h3 => ?_, fun h3 => ?_⟩
      · subst h3
        rw [dec_t, dec_f]
        refine ⟨fun h4 => ?_, fun h4 => ?_⟩
        · rw [dotB_short (by omega)] at hR; exact hR
        · obtain ⟨x, hx⟩ := getLast_some (ds := xs) (by omega)
          obtain ⟨g1, g2⟩ := rows_last hx
          have e := dotB_some hx
          rw [decide_eq_true (show 2 ≤ xs.length by omega), Bool.true_and] at e
          have e1 : IntKind.wrap .i64 ((xs.length : Int) - 1) = ((xs.length - 1 : Nat) : Int) := by rw [w64 (by omega) (by omega)]; omega
          rw [e1, Int.toNat_natCast]
          obtain ⟨k', t', n', l', ys, a'⟩ := x
          simp only [Dt.row] at g2
          have ek : (Dt.mk k' t' n' l' ys a').kind = k' := rfl
          rw [ek] at e
          refine ⟨by omega, _, _, _, _, _, _, g2, ?_⟩
          rw [beq_t, beq_f, beq_t, beq_f]
          refine ⟨fun h5 => ?_, fun h5 => ⟨fun h6 => ?_, fun h6 => ?_⟩⟩
          · rw [decide_eq_false (fun hx => hx h5), Bool.false_and] at e
            rw [e] at hR; exact hR
          · rw [decide_eq_false (p := k' ≠ 2) (fun hx => hx h6), Bool.and_false] at e
            rw [e] at hR; exact hR
          · rw [decide_eq_true h5, decide_eq_true h6] at e
            rw [e] at hR; exact hR
      · rw [dotB_ne h3] at hR; exact hR
  | d + 1, j, m, hj, h0, h1, h => by
    have hF := hp xs[j] (List.getElem_mem _) (room - m) (by omega) (by omega)
    have hr' := drow_at (List.getElem?_eq_getElem (show j < xs.length by omega))
    have hd : xs.drop j = xs[j] :: xs.drop (j + 1) := List.drop_eq_getElem_cons (by omega)
    have hle := meas_le xs[j] (dp + 1) (room - m)
    rw [hd] at h
    simp only [Dt.measL] at h
    generalize xs[j] = y at hF hr' h hle
    obtain ⟨k', t', n', l', ys, a'⟩ := y
    unfold fzD at hF
    simp only [Dt.row, List.map_cons, List.map_nil] at hF hr'
    refine read_measure_l0 ?_
    unfold read_measure_R0
    have e : IntKind.wrap .i64 ((j : Int) + 1) = ((j + 1 : Nat) : Int) := w64 (by omega) (by omega)
    have e2 : IntKind.wrap .i64 (dp + 1) = dp + 1 := w64 (by omega) (by omega)
    have e3 : IntKind.wrap .i64 (room - m) = room - m := w64 (by omega) (by omega)
    rw [rows_len, dec_t, dec_f, e, e2, e3]
    refine ⟨fun _ => ⟨by omega, _, _, _, _, _, _, hr', _, hF, ?_⟩, fun h => by omega⟩
    rw [dec_t, dec_f]
    generalize (Dt.mk k' t' n' l' ys a').meas (dp + 1) (room - m) = q at *
    refine ⟨fun h2 => ?_, fun h2 => ?_⟩
    · rw [if_pos h2] at h
      rw [h] at hR
      simpa using hR
    · rw [if_neg h2] at h
      have e4 : IntKind.wrap .i64 (m + q) = m + q := w64 (by omega) (by omega)
      rw [e4]
      exact rdMeasure_loop k t n l a xs hl dp room hd0 hd1 hr hp R hR d (j + 1) (m + q) (by omega) (by omega) (by omega) h
mutual
theorem rdMeasure_ok : ∀ (x : Dt) (dp room : Int), x.ok → 0 ≤ dp → dp ≤ 100 → room ≤ 8192 → -8192 ≤ room → Fn Tryz.prog 91 [fzD x, fzI .i64 dp, fzI .i64 room] [] (fzI .i64 (x.meas dp room)) []
  | .mk k t n l xs a, dp, room, hok, h0, h1, h2, h3 => by
    unfold Dt.ok at hok
    obtain ⟨_, ht, _, hl4, hxl, hxs, _⟩ := hok
    have hxl : xs.length * 88 ≤ 140737488355328 := by omega
    have hall := fun (h64 : ¬ 64 < dp) => rdMeasure_all xs (dp + 1) hxs (by omega) (by omega)
    unfold fzD
    simp only [Dt.row, List.map_cons, List.map_nil]
    refine read_measure_fn _ _ _ _ _ _ _ _ ?_
    obtain ⟨R, hR, hRe⟩ : ∃ R : TV → List Ob → Prop, R (fzI .i64 ((Dt.mk k t n l xs a).meas dp room)) [] ∧ (fun r' h' => r' = (fzI .i64 ((Dt.mk k t n l xs a).meas dp room)) ∧ h' = []) = R := ⟨_, ⟨rfl, rfl⟩, rfl⟩
    rw [hRe]
    clear hRe
    unfold read_measure_H
    unfold Dt.meas at hR
    rw [dec_t, dec_f, dec_t, dec_f]
    refine ⟨fun h => ?_, fun h4 => ⟨fun h => ?_, fun h5 => ?_⟩⟩
    · rw [if_pos (.inl h)] at hR; exact hR
    · rw [if_pos (.inr h)] at hR; exact hR
    · rw [if_neg (by omega)] at hR
      have go : (k = 1 ∨ k = 3 ∨ k = 2) → read_measure_L0 R k t n (ints .u32 l) (Dt.rows xs) a dp room 1 0 := fun hk => by
        rw [if_pos hk] at hR
        exact rdMeasure_loop k t n l a xs hxl dp room h0 (by omega) h2 (fun x hx r hr hr' => hall h4 x hx r hr hr') R hR xs.length 0 1 (by omega) (by omega) (by omega) rfl
      rw [beq_t, beq_f, beq_t, beq_f, beq_t, beq_f]
      refine ⟨fun h => go (.inl h), fun k1 => ⟨fun h => go (.inr (.inl h)), fun k3 => ⟨fun h => go (.inr (.inr h)), fun k2 => ⟨_, rdLeaf_ok k t n l xs a ht hl4, ?_⟩⟩⟩⟩
      rw [if_neg (by omega)] at hR
      rw [not_t, not_f]
      refine ⟨fun h => ?_, fun h => ?_⟩
      · rw [if_neg (by rw [h]; simp)] at hR; exact hR
      · rw [if_pos h] at hR; exact hR
theorem rdMeasure_all : ∀ (xs : List Dt) (dp : Int), Dt.oks xs → 0 ≤ dp → dp ≤ 100 → ∀ x ∈ xs, ∀ room : Int, room ≤ 8192 → -8192 ≤ room → Fn Tryz.prog 91 [fzD x, fzI .i64 dp, fzI .i64 room] [] (fzI .i64 (x.meas dp room)) []
  | [], dp, hok, h0, h1 => fun x hx => by cases hx
  | y :: xs, dp, hok, h0, h1 => fun x hx room hr hr' => by
    unfold Dt.oks at hok
    have h2 := rdMeasure_ok y dp room hok.1 h0 h1 hr hr'
    have h3 := rdMeasure_all xs dp hok.2 h0 h1
    rcases List.mem_cons.1 hx with rfl | hx
    · exact h2
    · exact h3 x hx room hr hr'
end
def Dt.snd (x : Dt) : Bool := decide (0 < x.meas 1 8192)
theorem readSound_ok (x : Dt) (hx : x.ok) : Fn Tryz.prog 57 [fzD x] [] (fzB x.snd) [] := by
  have h := rdMeasure_ok x 1 8192 hx (by omega) (by omega) (by omega) (by omega)
  unfold Dt.snd
  obtain ⟨k, t, n, l, xs, a⟩ := x
  unfold fzD at h ⊢
  simp only [Dt.row, List.map_cons, List.map_nil] at h ⊢
  refine read_Sound_fn _ _ _ _ _ _ ?_
  unfold read_Sound_H
  exact ⟨_, h, rfl, rfl⟩
end Go.Proofs.YtejefchehdifhaaGreatDoor.Ev
end
section
set_option linter.unusedVariables false
set_option linter.unusedSimpArgs false
namespace Go.Proofs.YtejefchehdifhaaGreatDoor.Ev
open Go Go.RowKit
theorem rcN_str (T : List Int) (hT : Bytes T) : (0 ≤ rcN T ∧ rcN T ≤ 4096) ↔ ((chars T).2 < 0 ∧ (chL T).length ≤ 4096 ∧ T.length ≤ 65536) := by
  unfold rcN chL
  rcases chs_bad (T.length + 1) 0 T [] with h | h
  · have h' : (chars T).2 = -1 := h
    rw [if_pos h', if_pos h']
    split <;> omega
  · have h' : ¬ (chars T).2 = -1 := fun e => by have : (chars T).2 = -1 := e; unfold chars at this; omega
    have h'' : ¬ (chars T).2 < 0 := fun e => by unfold chars at e; omega
    rw [if_neg h', if_neg h']
    split <;> omega
theorem rcN_one (T : List Int) (hT : Bytes T) : (rcN T = 1) ↔ ((chars T).2 < 0 ∧ (chL T).length = 1) := by
  unfold rcN chL
  rcases chs_bad (T.length + 1) 0 T [] with h | h
  · have h' : (chars T).2 = -1 := h
    have h4 := chars_four hT h'
    rw [if_pos h', if_pos h']
    split <;> omega
  · have h' : ¬ (chars T).2 = -1 := fun e => by have : (chars T).2 = -1 := e; unfold chars at this; omega
    have h'' : ¬ (chars T).2 < 0 := fun e => by unfold chars at e; omega
    rw [if_neg h', if_neg h']
    split <;> omega
def Dt.siz (x : Dt) (dp room : Int) : Int := if x.meas dp room < 0 then 100000 else x.meas dp room
theorem rSize_loop (k : Int) (t : ByteArray) (n : Bool) (l : List Int) (a : Int) (xs : List Dt) (hl : xs.length * 88 ≤ 140737488355328) (dp room : Int) (hd0 : 0 ≤ dp) (hd1 : dp ≤ 64) (hr : room ≤ 8192)
    (hp : ∀ x ∈ xs, ∀ r : Int, r ≤ 8192 → -8192 ≤ r → Fn Tryz.prog 60 [fzD x, fzI .i64 (dp + 1), fzI .i64 r] [] (fzI .i64 (x.siz (dp + 1) r)) [])
    (R : TV → List Ob → Prop) (hR : R (fzI .i64 (if dotB k xs = true ∧ 0 ≤ Dt.measL xs (dp + 1) room 1 then Dt.measL xs (dp + 1) room 1 else 100000)) []) :
    ∀ (d j : Nat) (m : Int), j + d = xs.length → 1 ≤ m → m ≤ room → Dt.measL xs (dp + 1) room 1 = Dt.measL (xs.drop j) (dp + 1) room m → ref02_size_L0 R k t n (ints .u32 l) (Dt.rows xs) a dp room m j
  | 0, j, m, hj, h0, h1, h => by
    refine ref02_size_l0 ?_
    unfold ref02_size_R0
    rw [rows_len, dec_t, dec_f]
    refine ⟨fun h => by omega, fun _ => ?_⟩
    rw [h, List.drop_of_length_le (by omega)] at hR
    unfold Dt.measL at hR
    rw [beq_t, beq_f]
    refine ⟨fun h3 => ?_, fun h3 => ?_⟩
    · subst h3
      rw [dec_t, dec_f]
      refine ⟨fun h4 => ?_, fun h4 => ?_⟩
      · rw [if_neg (by rw [dotB_short (by omega)]; simp)] at hR; exact hR
      · obtain ⟨x, hx⟩ := getLast_some (ds := xs) (by omega)
        obtain ⟨g1, g2⟩ := rows_last hx
        have e := dotB_some hx
        rw [decide_eq_true (show 2 ≤ xs.length by omega), Bool.true_and] at e
        have e1 : IntKind.wrap .i64 ((xs.length : Int) - 1) = ((xs.length - 1 : Nat) : Int) := by rw [w64 (by omega) (by omega)]; omega
        rw [e1, Int.toNat_natCast]
        obtain ⟨k', t', n', l', ys, a'⟩ := x
        simp only [Dt.row] at g2
        have ek : (Dt.mk k' t' n' l' ys a').kind = k' := rfl
        rw [ek] at e
        refine ⟨by omega, _, _, _, _, _, _, g2, ?_⟩
        rw [beq_t, beq_f]
        refine ⟨fun h5 => ?_, fun h5 => ⟨by omega, _, _, _, _, _, _, g2, ?_⟩⟩
        · rw [decide_eq_false (fun hx => hx h5), Bool.false_and] at e
          rw [if_neg (by rw [e]; simp)] at hR; exact hR
        · rw [beq_t, beq_f]
          refine ⟨fun h6 => ?_, fun h6 => ?_⟩
          · rw [decide_eq_false (p := k' ≠ 2) (fun hx => hx h6), Bool.and_false] at e
            rw [if_neg (by rw [e]; simp)] at hR; exact hR
          · rw [decide_eq_true h5, decide_eq_true h6] at e
            rw [if_pos ⟨e, by omega⟩] at hR; exact hR
    · rw [if_pos ⟨dotB_ne h3, by omega⟩] at hR; exact hR
  | d + 1, j, m, hj, h0, h1, h => by
    have hF := hp xs[j] (List.getElem_mem _) (room - m) (by omega) (by omega)
    have hr' := drow_at (List.getElem?_eq_getElem (show j < xs.length by omega))
    have hd : xs.drop j = xs[j] :: xs.drop (j + 1) := List.drop_eq_getElem_cons (by omega)
    have hle := meas_le xs[j] (dp + 1) (room - m)
    rw [hd] at h
    simp only [Dt.measL] at h
    unfold Dt.siz at hF
    generalize xs[j] = y at hF hr' h hle
    obtain ⟨k', t', n', l', ys, a'⟩ := y
    unfold fzD at hF
    simp only [Dt.row, List.map_cons, List.map_nil] at hF hr'
    refine ref02_size_l0 ?_
    unfold ref02_size_R0
    have e : IntKind.wrap .i64 ((j : Int) + 1) = ((j + 1 : Nat) : Int) := w64 (by omega) (by omega)
    have e2 : IntKind.wrap .i64 (dp + 1) = dp + 1 := w64 (by omega) (by omega)
    have e3 : IntKind.wrap .i64 (room - m) = room - m := w64 (by omega) (by omega)
    rw [rows_len, dec_t, dec_f, e, e2, e3]
    refine ⟨fun _ => ⟨by omega, _, _, _, _, _, _, hr', _, hF, ?_⟩, fun h => by omega⟩
    rw [dec_t, dec_f]
    generalize (Dt.mk k' t' n' l' ys a').meas (dp + 1) (room - m) = q at *
    by_cases hq : q < 0
    · rw [if_pos hq] at h ⊢
      have e4 : IntKind.wrap .i64 (m + 100000) = m + 100000 := w64 (by omega) (by omega)
      rw [e4]
      refine ⟨fun _ => ?_, fun h2 => by omega⟩
      rw [if_neg (by omega)] at hR; exact hR
    · rw [if_neg hq] at h ⊢
      have e4 : IntKind.wrap .i64 (m + q) = m + q := w64 (by omega) (by omega)
      rw [e4]
      refine ⟨fun h2 => by omega, fun _ => ?_⟩
      exact rSize_loop k t n l a xs hl dp room hd0 hd1 hr hp R hR d (j + 1) (m + q) (by omega) (by omega) (by omega) h
set_option maxHeartbeats 1000000 in
theorem rSize_head (k : Int) (t : ByteArray) (n : Bool) (l : List Int) (xs : List Dt) (a dp room : Int) (ht : t.size ≤ 1048576) (hl : l.length * 4 ≤ 140737488355328) (h1 : ¬ 64 < dp) (h2 : ¬ room < 1) (R : TV → List Ob → Prop)
    (hg : (k = 1 ∨ k = 3 ∨ k = 2) → plB t n l xs.length false false true = true → ref02_size_L0 R k t n (ints .u32 l) (Dt.rows xs) a dp room 1 0)
    (hb : (k = 1 ∨ k = 3 ∨ k = 2) → plB t n l xs.length false false true = false → R (fzI .i64 100000) [])
    (hy : ¬ (k = 1 ∨ k = 3 ∨ k = 2) → leafB k t n l xs.length = true → R (fzI .i64 1) [])
    (hn : ¬ (k = 1 ∨ k = 3 ∨ k = 2) → leafB k t n l xs.length = false → R (fzI .i64 100000) []) : ref02_size_H R k t n (ints .u32 l) (Dt.rows xs) a dp room := by
  unfold ref02_size_H
  have hA := rAtom_ok (bs t) (bs_bytes t) (by rw [← size_bs]; omega)
  have hC := rChars_ok (bs t) (bs_bytes t) (by rw [← size_bs]; omega)
  rw [of_bs] at hA
  have hB := fun x y z => rBare_ok k t n l xs a x y z
  rw [map_bs, size_bs]
  have leaf : ∀ (k' : Int) (b : Bool), k = k' → ¬ (k' = 1 ∨ k' = 3 ∨ k' = 2) → leafB k' t n l xs.length = b → (b = true → R (fzI .i64 1) []) ∧ (b = false → R (fzI .i64 100000) []) := by
    intro k' b e h3 h4
    subst e
    exact ⟨fun h => hy h3 (by rw [h4, h]), fun h => hn h3 (by rw [h4, h])⟩
  have list : ∀ (k' : Int), k = k' → (k' = 1 ∨ k' = 3 ∨ k' = 2) → ∃ b : Bool, Fn Tryz.prog 95 [fzD' k t n l xs a, fzB false, fzB false, fzB true] [] (fzB b) [] ∧ ((Bool.not b) = true → R (fzI .i64 100000) []) ∧ ((Bool.not b) = false → ref02_size_L0 R k t n (ints .u32 l) (Dt.rows xs) a dp room 1 0) := by
    intro k' e h3
    subst e
    exact ⟨_, hB _ _ _, fun h => hb h3 (by simpa using h), fun h => hg h3 (by simpa using h)⟩
  rw [dec_t, dec_f, dec_t, dec_f]
  refine ⟨fun h => absurd h h1, fun _ => ⟨fun h => absurd h h2, fun _ => ?_⟩⟩
  simp only [beq_t, beq_f]
  refine ⟨fun h => list 1 h (by omega), fun k1 => ⟨fun h => list 2 h (by omega), fun k2 => ⟨fun h => list 3 h (by omega), fun k3 => ⟨fun h => ?_, fun k4 => ⟨fun h => ?_, fun k5 => ⟨fun h => ?_, fun k6 => ⟨fun h => ?_, fun k7 => ⟨fun h => ?_, fun k8 => ⟨fun h => ?_, fun k9 => ⟨fun h => ?_, fun k10 => ⟨fun h => ?_, fun k11 => ?_⟩⟩⟩⟩⟩⟩⟩⟩⟩⟩⟩
  · have g := leaf 4 _ h (by omega) rfl
    unfold leafB at g
    rw [if_pos rfl] at g
    refine ⟨_, _, _, _, _, _, _, hA, fun h5 => ⟨fun h6 => ⟨_, hB _ _ _, ?_⟩, fun h6 => ?_⟩, fun h5 => ?_⟩
    · rw [decide_eq_true h6, Bool.true_and] at g; exact g
    · rw [decide_eq_false h6, Bool.false_and] at g; exact g.2 rfl
    · have : ¬ atomK (bs t) = 4 := fun h6 => by rw [h6] at h5; simp at h5
      rw [decide_eq_false this, Bool.false_and] at g; exact g.2 rfl
  · have g := leaf 5 _ h (by omega) rfl
    unfold leafB at g
    rw [if_neg (by omega), if_pos rfl] at g
    have hs := rcN_str (bs t) (bs_bytes t)
    refine ⟨_, _, hC, ?_⟩
    rw [ints_len, dec_t, dec_f, dec_t, dec_f, dec_t, dec_f]
    refine ⟨fun h5 => ⟨fun h6 => ⟨fun h7 => ⟨_, hB _ _ _, ?_⟩, fun h7 => ?_⟩, fun h6 => ?_⟩, fun h5 => ?_⟩
    · rw [decide_eq_true (hs.2 ⟨h5, by omega, by omega⟩), Bool.true_and] at g; exact g
    · rw [decide_eq_false (fun hx => by have := hs.1 hx; omega), Bool.false_and] at g; exact g.2 rfl
    · rw [decide_eq_false (fun hx => by have := hs.1 hx; omega), Bool.false_and] at g; exact g.2 rfl
    · rw [decide_eq_false (fun hx => by have := hs.1 hx; omega), Bool.false_and] at g; exact g.2 rfl
  · have g := leaf 6 _ h (by omega) rfl
    unfold leafB at g
    rw [if_neg (by omega), if_neg (by omega), if_pos rfl] at g
    have hs := rcN_one (bs t) (bs_bytes t)
    refine ⟨_, _, hC, ?_⟩
    rw [ints_len, dec_t, dec_f]
    refine ⟨fun h5 => ⟨fun h6 => ⟨_, hB _ _ _, ?_⟩, fun h6 => ?_⟩, fun h5 => ?_⟩
    · rw [decide_eq_true (hs.2 ⟨h5, by omega⟩), Bool.true_and] at g; exact g
    · rw [decide_eq_false (fun hx => h6 (by have := (hs.1 hx).2; omega)), Bool.false_and] at g; exact g.2 rfl
    · rw [decide_eq_false (fun hx => h5 (hs.1 hx).1), Bool.false_and] at g; exact g.2 rfl
  · have g := leaf 7 _ h (by omega) rfl
    unfold leafB at g
    rw [if_neg (by omega), if_neg (by omega), if_neg (by omega), if_pos rfl] at g
    refine ⟨_, rsound_ok n l (by omega), fun h5 => ⟨_, hB _ _ _, ?_⟩, fun h5 => ?_⟩
    · rw [h5, Bool.true_and] at g; exact g
    · rw [h5, Bool.false_and] at g; exact g.2 rfl
  · have g := leaf 8 _ h (by omega) rfl
    unfold leafB at g
    rw [if_neg (by omega), if_neg (by omega), if_neg (by omega), if_neg (by omega), if_neg (by omega), if_pos (by omega)] at g
    exact ⟨_, hB _ _ _, g⟩
  · have g := leaf 9 _ h (by omega) rfl
    unfold leafB at g
    rw [if_neg (by omega), if_neg (by omega), if_neg (by omega), if_neg (by omega), if_neg (by omega), if_pos (by omega)] at g
    exact ⟨_, hB _ _ _, g⟩
  · have g := leaf 10 _ h (by omega) rfl
    unfold leafB at g
    rw [if_neg (by omega), if_neg (by omega), if_neg (by omega), if_neg (by omega), if_neg (by omega), if_pos (by omega)] at g
    exact ⟨_, hB _ _ _, g⟩
  · have g := leaf 11 _ h (by omega) rfl
    unfold leafB at g
    rw [if_neg (by omega), if_neg (by omega), if_neg (by omega), if_neg (by omega), if_pos rfl] at g
    exact ⟨_, hB _ _ _, g⟩
  · refine hn (by omega) ?_
    unfold leafB
    rw [if_neg (by omega), if_neg (by omega), if_neg (by omega), if_neg (by omega), if_neg (by omega), if_neg (by omega)]
mutual
theorem rSize_ok : ∀ (x : Dt) (dp room : Int), x.ok → 0 ≤ dp → dp ≤ 100 → room ≤ 8192 → -8192 ≤ room → Fn Tryz.prog 60 [fzD x, fzI .i64 dp, fzI .i64 room] [] (fzI .i64 (x.siz dp room)) []
  | .mk k t n l xs a, dp, room, hok, h0, h1, h2, h3 => by
    unfold Dt.ok at hok
    obtain ⟨_, ht, _, hl4, hxl, hxs, _⟩ := hok
    have hxl : xs.length * 88 ≤ 140737488355328 := by omega
    have hall := fun (h64 : ¬ 64 < dp) => rSize_all xs (dp + 1) hxs (by omega) (by omega)
    unfold fzD
    simp only [Dt.row, List.map_cons, List.map_nil]
    refine ref02_size_fn _ _ _ _ _ _ _ _ ?_
    obtain ⟨R, hR, hRe⟩ : ∃ R : TV → List Ob → Prop, R (fzI .i64 ((Dt.mk k t n l xs a).siz dp room)) [] ∧ (fun r' h' => r' = (fzI .i64 ((Dt.mk k t n l xs a).siz dp room)) ∧ h' = []) = R := ⟨_, ⟨rfl, rfl⟩, rfl⟩
    rw [hRe]
    clear hRe
    unfold Dt.siz at hR
    have go : ∀ q : Int, (Dt.mk k t n l xs a).meas dp room = q → R (fzI .i64 (if q < 0 then 100000 else q)) [] := fun q hq => by rw [hq] at hR; exact hR
    by_cases h4 : 64 < dp
    · have g := go (-1) (by unfold Dt.meas; rw [if_pos (.inl h4)])
      unfold ref02_size_H
      rw [dec_t, dec_f]
      exact ⟨fun _ => g, fun h => absurd h4 h⟩
    by_cases h5 : room < 1
    · have g := go (-1) (by unfold Dt.meas; rw [if_pos (.inr h5)])
      unfold ref02_size_H
      rw [dec_t, dec_f, dec_t, dec_f]
      exact ⟨fun h => absurd h h4, fun _ => ⟨fun _ => g, fun h => absurd h5 h⟩⟩
    have hm := measL_le xs (dp + 1) room 1 (by omega) (by omega)
    have h6 : ¬ (64 < dp ∨ room < 1) := by omega
    refine rSize_head k t n l xs a dp room ht hl4 h4 h5 R (fun hk hp => ?_) (fun hk hp => ?_) (fun hk hp => ?_) (fun hk hp => ?_)
    · by_cases hd : dotB k xs = true
      · have g := go (Dt.measL xs (dp + 1) room 1) (by unfold Dt.meas; rw [if_neg h6, if_pos hk, hp, hd]; rfl)
        refine rSize_loop k t n l a xs hxl dp room h0 (by omega) h2 (fun x hx r hr hr' => hall h4 x hx r hr hr') R ?_ xs.length 0 1 (by omega) (by omega) (by omega) rfl
        refine cast (congrArg (fun z => R (fzI .i64 z) []) ?_) g
        by_cases h0 : Dt.measL xs (dp + 1) room 1 < 0
        · rw [if_pos h0, if_neg (by omega)]
        · rw [if_neg h0, if_pos ⟨hd, by omega⟩]
      · have hd' : dotB k xs = false := by simpa using hd
        have g := go (-1) (by unfold Dt.meas; rw [if_neg h6, if_pos hk, hp, hd']; rfl)
        refine rSize_loop k t n l a xs hxl dp room h0 (by omega) h2 (fun x hx r hr hr' => hall h4 x hx r hr hr') R ?_ xs.length 0 1 (by omega) (by omega) (by omega) rfl
        rw [if_neg (fun hx => hd hx.1)]
        exact g
    · exact go (-1) (by unfold Dt.meas; rw [if_neg h6, if_pos hk, hp]; rfl)
    · exact go 1 (by unfold Dt.meas; rw [if_neg h6, if_neg hk, if_pos hp])
    · exact go (-1) (by unfold Dt.meas; rw [if_neg h6, if_neg hk, if_neg (by rw [hp]; simp)])
theorem rSize_all : ∀ (xs : List Dt) (dp : Int), Dt.oks xs → 0 ≤ dp → dp ≤ 100 → ∀ x ∈ xs, ∀ room : Int, room ≤ 8192 → -8192 ≤ room → Fn Tryz.prog 60 [fzD x, fzI .i64 dp, fzI .i64 room] [] (fzI .i64 (x.siz dp room)) []
  | [], dp, hok, h0, h1 => fun x hx => by cases hx
  | y :: xs, dp, hok, h0, h1 => fun x hx room hr hr' => by
    unfold Dt.oks at hok
    have h2 := rSize_ok y dp room hok.1 h0 h1 hr hr'
    have h3 := rSize_all xs dp hok.2 h0 h1
    rcases List.mem_cons.1 hx with rfl | hx
    · exact h2
    · exact h3 x hx room hr hr'
end
theorem rSound_ok (x : Dt) (hx : x.ok) : Fn Tryz.prog 22 [fzD x] [] (fzB x.snd) [] := by
  have h := rSize_ok x 1 8192 hx (by omega) (by omega) (by omega) (by omega)
  have hm := meas_le x 1 8192
  have e : decide (x.siz 1 8192 ≤ 8192) = x.snd := by
    unfold Dt.siz Dt.snd
    rw [decide_eq_decide]
    split <;> omega
  rw [← e]
  clear e hm
  generalize x.siz 1 8192 = q at *
  obtain ⟨k, t, n, l, xs, a⟩ := x
  unfold fzD at h ⊢
  simp only [Dt.row, List.map_cons, List.map_nil] at h ⊢
  refine ref02_Sound_fn _ _ _ _ _ _ ?_
  unfold ref02_Sound_H
  exact ⟨_, h, rfl, rfl⟩
end Go.Proofs.YtejefchehdifhaaGreatDoor.Ev
end
section
set_option linter.unusedVariables false
set_option linter.unusedSimpArgs false
namespace Go.Proofs.YtejefchehdifhaaGreatDoor.Ev
open Go
mutual
def Dt.txt : Dt → List Int
  | .mk k t n l ds a =>
    if k = 4 then bs t else if k = 5 then quoV (bs t) else if k = 6 then [35, 92] ++ nameL (deR (bs t)) else if k = 7 then numT n l
    else if k = 8 then [35, 116] else if k = 9 then [35, 102] else if k = 10 then [35, 60, 118, 111, 105, 100, 62] else if k = 11 then [35, 60] ++ bs t ++ [62]
    else (if k = 3 then [35, 40] else [40]) ++ Dt.txts (decide (k = 2)) true ds
def Dt.txts (dot first : Bool) : List Dt → List Int
  | [] => [41]
  | x :: xs => (if first = true then [] else [32]) ++ ((if dot = true ∧ xs = [] then [46, 32] else []) ++ (x.txt ++ Dt.txts dot false xs))
end
mutual
def Dt.fit : Dt → Prop
  | .mk k t n l ds a => (1 ≤ k ∧ k ≤ 11) ∧ (k = 6 → ∃ c, scalB c = true ∧ bs t = utfB c) ∧ (k = 7 → sndB n l = true) ∧ (k = 4 → bs t ≠ []) ∧ Dt.fits ds
def Dt.fits : List Dt → Prop
  | [] => True
  | d :: ds => d.fit ∧ Dt.fits ds
end
theorem plB_nil {t : ByteArray} {n : Bool} {l : List Int} {dn : Nat} {a b : Bool} (h : plB t n l dn a b false = true) : dn = 0 := by
  unfold plB at h
  simp at h
  exact h.2.2
theorem leafB_fit {k : Int} {t : ByteArray} {n : Bool} {l : List Int} {dn : Nat} (h : leafB k t n l dn = true) : (4 ≤ k ∧ k ≤ 11) ∧ (k = 6 → ∃ c, scalB c = true ∧ bs t = utfB c) ∧ (k = 7 → sndB n l = true) ∧ (k = 4 → bs t ≠ []) ∧ dn = 0 := by
  unfold leafB at h
  by_cases c4 : k = 4
  · rw [if_pos c4, Bool.and_eq_true] at h
    refine ⟨by omega, fun e => absurd e (by omega), fun e => absurd e (by omega), fun _ e => ?_, plB_nil h.2⟩
    rw [e] at h
    exact absurd h.1 (by decide)
  rw [if_neg c4] at h
  by_cases c5 : k = 5
  · rw [if_pos c5, Bool.and_eq_true] at h
    exact ⟨by omega, fun e => absurd e (by omega), fun e => absurd e (by omega), fun e => absurd e (by omega), plB_nil h.2⟩
  rw [if_neg c5] at h
  by_cases c6 : k = 6
  · rw [if_pos c6, Bool.and_eq_true] at h
    refine ⟨by omega, fun _ => ?_, fun e => absurd e (by omega), fun e => absurd e (by omega), plB_nil h.2⟩
    have hb := bs_bytes t
    obtain ⟨h1, h2⟩ := (rcN_one (bs t) hb).1 (of_decide_eq_true h.1)
    have hm : (chars (bs t)).2 = -1 := by have := chars_snd (bs t); omega
    rw [chL_eq _ hm] at h2
    obtain ⟨e1, e2⟩ := chars_back hb hm
    generalize (chars (bs t)).1 = C at *
    match C, h2 with
    | [c], _ => exact ⟨c, e2 c (by simp), by rw [← e1]; simp [enc]⟩
  rw [if_neg c6] at h
  by_cases c7 : k = 7
  · rw [if_pos c7, Bool.and_eq_true] at h
    exact ⟨by omega, fun e => absurd e (by omega), fun _ => h.1, fun e => absurd e (by omega), plB_nil h.2⟩
  rw [if_neg c7] at h
  by_cases c11 : k = 11
  · rw [if_pos c11] at h
    exact ⟨by omega, fun e => absurd e (by omega), fun e => absurd e (by omega), fun e => absurd e (by omega), plB_nil h⟩
  rw [if_neg c11] at h
  by_cases c8 : k = 8 ∨ k = 9 ∨ k = 10
  · rw [if_pos c8] at h
    exact ⟨by omega, fun e => absurd e (by omega), fun e => absurd e (by omega), fun e => absurd e (by omega), plB_nil h⟩
  · rw [if_neg c8] at h; cases h
mutual
theorem fit_meas : ∀ (x : Dt) (dp room : Int), 0 < x.meas dp room → x.fit
  | .mk k t n l ds a, dp, room, h => by
    unfold Dt.meas at h
    unfold Dt.fit
    by_cases c : 64 < dp ∨ room < 1
    · rw [if_pos c] at h; omega
    rw [if_neg c] at h
    by_cases c2 : k = 1 ∨ k = 3 ∨ k = 2
    · rw [if_pos c2] at h
      split at h
      · exact ⟨by omega, fun e => absurd e (by omega), fun e => absurd e (by omega), fun e => absurd e (by omega), fits_meas ds _ _ _ h⟩
      · omega
    · rw [if_neg c2] at h
      split at h
      · rename_i hl
        obtain ⟨h1, h2, h3, h5, h4⟩ := leafB_fit hl
        refine ⟨by omega, h2, h3, h5, ?_⟩
        rw [List.length_eq_zero_iff.1 h4]
        trivial
      · omega
theorem fits_meas : ∀ (xs : List Dt) (dp room n : Int), 0 < Dt.measL xs dp room n → Dt.fits xs
  | [], _, _, _, _ => trivial
  | x :: xs, dp, room, n, h => by
    unfold Dt.measL at h
    unfold Dt.fits
    by_cases c : x.meas dp (room - n) < 0
    · rw [if_pos c] at h; omega
    · rw [if_neg c] at h
      refine ⟨fit_meas x dp (room - n) ?_, fits_meas xs _ _ _ h⟩
      have := meas_le x dp (room - n)
      omega
end
theorem fit_of_snd {x : Dt} (h : x.snd = true) : x.fit := fit_meas x 1 8192 (of_decide_eq_true h)
theorem quoS_bytes : ∀ (f : Nat) (l : List Int), Bytes l → Bytes (quoS f l) ∧ (quoS f l).length ≤ 6 * l.length + 1
  | 0, l, h => ⟨by intro x hx; simp [quoS] at hx; omega, by simp [quoS]⟩
  | f + 1, l, h => by
    unfold quoS
    by_cases c : l = []
    · rw [if_pos c]; exact ⟨by intro x hx; simp at hx; omega, by simp⟩
    rw [if_neg c]
    have hl0 : l.length ≠ 0 := fun h => c (List.length_eq_zero_iff.1 h)
    have hbd := ch1_bounds h c
    by_cases c2 : (ch1 l).2 = 0
    · rw [if_pos c2]
      obtain ⟨i1, i2⟩ := quoS_bytes f (l.drop 1) (drop_bytes h _)
      rw [List.length_drop] at i2
      refine ⟨?_, by rw [List.length_cons]; omega⟩
      intro x hx
      rcases List.mem_cons.1 hx with rfl | hx
      · exact rd_byte h 0
      · exact i1 x hx
    · rw [if_neg c2]
      obtain ⟨i1, i2⟩ := quoS_bytes f (l.drop (ch1 l).2.toNat) (drop_bytes h _)
      rw [List.length_drop] at i2
      have he := escL_len (c := (ch1 l).1) hbd.1
      exact ⟨Bytes.append (escL_bytes (ch1_scal h c c2)) i1, by rw [List.length_append]; omega⟩
theorem quoV_bytes {T : List Int} (h : Bytes T) : Bytes (quoV T) ∧ (quoV T).length ≤ 6 * T.length + 2 := by
  obtain ⟨i1, i2⟩ := quoS_bytes (T.length + 1) T h
  unfold quoV
  refine ⟨?_, by rw [List.length_cons]; omega⟩
  intro x hx
  rcases List.mem_cons.1 hx with rfl | hx
  · omega
  · exact i1 x hx
theorem nameL_bytes {c : Int} (hc : scalB c = true) : Bytes (nameL c) ∧ (nameL c).length ≤ 10 := by
  obtain ⟨h0, h1, _⟩ := scal_in hc
  unfold nameL
  repeat' split
  · exact ⟨by intro x hx; simp at hx; omega, by simp⟩
  · exact ⟨by intro x hx; simp at hx; omega, by simp⟩
  · exact ⟨by intro x hx; simp at hx; omega, by simp⟩
  · exact ⟨by intro x hx; simp at hx; omega, by simp⟩
  · exact ⟨by intro x hx; simp at hx; omega, by simp⟩
  · exact ⟨by intro x hx; simp at hx; omega, by simp⟩
  · obtain ⟨i1, i2⟩ := hexT_bytes (c := c) h0 (by omega)
    refine ⟨?_, by rw [List.length_cons]; omega⟩
    intro x hx
    rcases List.mem_cons.1 hx with rfl | hx
    · omega
    · exact i1 x hx
  · have := utfB_le c
    exact ⟨utfB_bytes hc, by omega⟩
theorem numT_len (s : Bool) (l : List Int) (hu : U32 l) (h : sndB s l = true) : (numT s l).length ≤ 577 ∧ (l.length = 0 → (numT s l).length ≤ 1) := by
  obtain ⟨hl, hL⟩ : l.length ≤ 64 ∧ Lim 1000000000 l := by
    unfold sndB at h
    simp only [Bool.and_eq_true, decide_eq_true_eq, List.all_eq_true] at h
    exact ⟨h.1.1, fun x hx => ⟨(hu x hx).1, h.1.2 x hx⟩⟩
  unfold numT
  rw [if_pos h]
  refine ⟨?_, fun e => by rw [if_pos e]; simp⟩
  split
  · simp
  · have hv : val 1000000000 l < 1000000000 ^ l.length := val_lt (by omega) hL
    have hv0 : 0 ≤ val 1000000000 l := val_nonneg (by omega) hL
    have h2 : (1000000000 : Int) ^ l.length ≤ 1000000000 ^ 64 := pow_mono (by omega) (by omega)
    have h3 : (10 : Int) ^ 576 = 1000000000 ^ 64 := pow9 64
    have h4 : (((10 : Nat) ^ 576 : Nat) : Int) = 10 ^ 576 := cast_ten_pow 576
    have h1 : (digs 10 (val 1000000000 l).toNat).length ≤ 576 := by
      rw [digs_len (by omega)]
      omega
    rw [List.length_append, tdig_len]
    split
    · simp only [List.length_cons, List.length_nil]; omega
    · simp only [List.length_nil]; omega
end Go.Proofs.YtejefchehdifhaaGreatDoor.Ev
end
section
set_option linter.unusedVariables false
set_option maxRecDepth 100000
namespace Go.Proofs.YtejefchehdifhaaGreatDoor.Ev
open Go
def prF_list_lv : List Nat → Keep := lvOf [([0, 1, 0, 1], ⟨28679, 0, [], false, false⟩)]
def prF_list_S0 (list : List (List FV)) (dotted : Bool) (i : Int) (es : List (List FV)) : St := (St.mk [(TV.one (AV.ptr 0 0 0 90)), (TV.one (AV.fz (FV.sl 6 list))), (TV.one (AV.fz (FV.bool dotted))), TV.und, TV.und, TV.und, TV.und, TV.und, TV.und, TV.und, TV.und, TV.und, (TV.one (AV.fz (FV.sl 6 list))), (TV.one (AV.fz (FV.int .i64 (((List.length list) : Nat) : Int)))), (TV.one (AV.fz (FV.int .i64 i))), TV.und, TV.und, TV.und, TV.und, TV.und, TV.und, TV.und, TV.und, TV.und, TV.und, TV.und, TV.und, TV.und, TV.und, TV.und, TV.und, TV.und, TV.und, TV.und, TV.und, TV.und, TV.und, TV.und, TV.und, TV.und, TV.und, TV.und, TV.und, TV.und, TV.und] [(Ob.g 90 [(AV.ptr 0 0 0 0), (AV.ofl 1 1)]), (Ob.f 5 1 es)])
def prF_list_L0 (R : TV → List Ob → Prop) (list : List (List FV)) (dotted : Bool) (i : Int) (es : List (List FV)) : Prop := LoopAt Tryz.prog (modeOf [] [(63, [(Sig.mk 1 [(false, [(AT.a (AV.fz (FV.ifc false)))])] [(OT.g 90 [(AT.a (AV.ptr 0 0 0 0)), (AT.a (AV.ofl 1 1))]), (OT.f 5 1)] 0), (Sig.mk 2 [(false, [(AT.a (AV.fz (FV.ifc false)))])] [(OT.g 90 [(AT.a (AV.ptr 0 0 0 0)), (AT.a (AV.ofl 1 2))]), OT.no, (OT.f 5 1)] 0)]), (65, [(Sig.mk 1 [(false, [(AT.k (CK.int .i64))]), (false, [(AT.a (AV.fz (FV.ifc false)))])] [(OT.g 90 [(AT.a (AV.ptr 0 0 0 0)), (AT.a (AV.ofl 1 1))]), (OT.f 5 1)] 0), (Sig.mk 2 [(false, [(AT.k (CK.int .i64))]), (false, [(AT.a (AV.fz (FV.ifc false)))])] [(OT.g 90 [(AT.a (AV.ptr 0 0 0 0)), (AT.a (AV.ofl 1 2))]), OT.no, (OT.f 5 1)] 0)]), (58, [(Sig.mk 1 [] [(OT.g 90 [(AT.a (AV.ptr 0 0 0 0)), (AT.a (AV.ofl 1 1))]), (OT.f 5 1)] 0), (Sig.mk 2 [] [(OT.g 90 [(AT.a (AV.ptr 0 0 0 0)), (AT.a (AV.ofl 1 2))]), OT.no, (OT.f 5 1)] 0)])]) prF_list_lv Tryz.f92 (some 1) R [1, 0, 1, 0] (prF_list_S0 list dotted i es)
def prF_list_R0 (R : TV → List Ob → Prop) (list : List (List FV)) (dotted : Bool) (i : Int) (es : List (List FV)) : Prop :=
  ((((decide (i < (((List.length list) : Nat) : Int))) = true) → (((0 : Int) ≤ i) ∧ (∃ n8 : Int, (∃ s2 : ByteArray, (∃ b2 : Bool, (∃ es25 : List (List FV), (∃ es26 : List (List FV), (∃ n9 : Int, (((list)[(Int.toNat i)]? = (some [(FV.int .i64 n8), (FV.str s2), (FV.bool b2), (FV.sl 1 es25), (FV.sl 6 es26), (FV.int .i64 n9)])) ∧ ((((decide ((0 : Int) < i)) = true) → (∃ es27 : List (List FV), ((Fn Tryz.prog 63 [(TV.one (AV.ptr 0 0 0 90)), (TV.one (AV.fz (FV.int .u8 32)))] [(Ob.g 90 [(AV.ptr 0 0 0 0), (AV.ofl 1 1)]), (Ob.f 5 1 es)] (TV.one (AV.fz (FV.ifc false))) [(Ob.g 90 [(AV.ptr 0 0 0 0), (AV.ofl 1 2)]), Ob.no, (Ob.f 5 1 es27)]) ∧ (((dotted = true) → ((((i == (IntKind.wrap .i64 ((((List.length list) : Nat) : Int) - 1))) = true) → (∃ es28 : List (List FV), (∃ n10 : Int, ((Fn Tryz.prog 65 [(TV.one (AV.ptr 0 0 0 90)), (TV.one (AV.fz (FV.str (ByteArray.mk #[46, 32]))))] [(Ob.g 90 [(AV.ptr 0 0 0 0), (AV.ofl 1 1)]), (Ob.f 5 1 es27)] (TV.tup [(false, [(AV.fz (FV.int .i64 n10))]), (false, [(AV.fz (FV.ifc false))])]) [(Ob.g 90 [(AV.ptr 0 0 0 0), (AV.ofl 1 2)]), Ob.no, (Ob.f 5 1 es28)]) ∧ (∃ es29 : List (List FV), ((Fn Tryz.prog 58 [(TV.one (AV.ptr 0 0 0 90)), (TV.agg [(AV.fz (FV.int .i64 n8)), (AV.fz (FV.str s2)), (AV.fz (FV.bool b2)), (AV.fz (FV.sl 1 es25)), (AV.fz (FV.sl 6 es26)), (AV.fz (FV.int .i64 n9))])] [(Ob.g 90 [(AV.ptr 0 0 0 0), (AV.ofl 1 1)]), (Ob.f 5 1 es28)] (TV.tup []) [(Ob.g 90 [(AV.ptr 0 0 0 0), (AV.ofl 1 2)]), Ob.no, (Ob.f 5 1 es29)]) ∧ (prF_list_L0 R list dotted (IntKind.wrap .i64 (i + 1)) es29))))))) ∧ (((i == (IntKind.wrap .i64 ((((List.length list) : Nat) : Int) - 1))) = false) → (∃ es30 : List (List FV), ((Fn Tryz.prog 58 [(TV.one (AV.ptr 0 0 0 90)), (TV.agg [(AV.fz (FV.int .i64 n8)), (AV.fz (FV.str s2)), (AV.fz (FV.bool b2)), (AV.fz (FV.sl 1 es25)), (AV.fz (FV.sl 6 es26)), (AV.fz (FV.int .i64 n9))])] [(Ob.g 90 [(AV.ptr 0 0 0 0), (AV.ofl 1 1)]), (Ob.f 5 1 es27)] (TV.tup []) [(Ob.g 90 [(AV.ptr 0 0 0 0), (AV.ofl 1 2)]), Ob.no, (Ob.f 5 1 es30)]) ∧ (prF_list_L0 R list dotted (IntKind.wrap .i64 (i + 1)) es30)))))) ∧ ((dotted = false) → (∃ es31 : List (List FV), ((Fn Tryz.prog 58 [(TV.one (AV.ptr 0 0 0 90)), (TV.agg [(AV.fz (FV.int .i64 n8)), (AV.fz (FV.str s2)), (AV.fz (FV.bool b2)), (AV.fz (FV.sl 1 es25)), (AV.fz (FV.sl 6 es26)), (AV.fz (FV.int .i64 n9))])] [(Ob.g 90 [(AV.ptr 0 0 0 0), (AV.ofl 1 1)]), (Ob.f 5 1 es27)] (TV.tup []) [(Ob.g 90 [(AV.ptr 0 0 0 0), (AV.ofl 1 2)]), Ob.no, (Ob.f 5 1 es31)]) ∧ (prF_list_L0 R list dotted (IntKind.wrap .i64 (i + 1)) es31)))))))) ∧ (((decide ((0 : Int) < i)) = false) → (((dotted = true) → ((((i == (IntKind.wrap .i64 ((((List.length list) : Nat) : Int) - 1))) = true) → (∃ es32 : List (List FV), (∃ n11 : Int, ((Fn Tryz.prog 65 [(TV.one (AV.ptr 0 0 0 90)), (TV.one (AV.fz (FV.str (ByteArray.mk #[46, 32]))))] [(Ob.g 90 [(AV.ptr 0 0 0 0), (AV.ofl 1 1)]), (Ob.f 5 1 es)] (TV.tup [(false, [(AV.fz (FV.int .i64 n11))]), (false, [(AV.fz (FV.ifc false))])]) [(Ob.g 90 [(AV.ptr 0 0 0 0), (AV.ofl 1 2)]), Ob.no, (Ob.f 5 1 es32)]) ∧ (∃ es33 : List (List FV), ((Fn Tryz.prog 58 [(TV.one (AV.ptr 0 0 0 90)), (TV.agg [(AV.fz (FV.int .i64 n8)), (AV.fz (FV.str s2)), (AV.fz (FV.bool b2)), (AV.fz (FV.sl 1 es25)), (AV.fz (FV.sl 6 es26)), (AV.fz (FV.int .i64 n9))])] [(Ob.g 90 [(AV.ptr 0 0 0 0), (AV.ofl 1 1)]), (Ob.f 5 1 es32)] (TV.tup []) [(Ob.g 90 [(AV.ptr 0 0 0 0), (AV.ofl 1 2)]), Ob.no, (Ob.f 5 1 es33)]) ∧ (prF_list_L0 R list dotted (IntKind.wrap .i64 (i + 1)) es33))))))) ∧ (((i == (IntKind.wrap .i64 ((((List.length list) : Nat) : Int) - 1))) = false) → (∃ es34 : List (List FV), ((Fn Tryz.prog 58 [(TV.one (AV.ptr 0 0 0 90)), (TV.agg [(AV.fz (FV.int .i64 n8)), (AV.fz (FV.str s2)), (AV.fz (FV.bool b2)), (AV.fz (FV.sl 1 es25)), (AV.fz (FV.sl 6 es26)), (AV.fz (FV.int .i64 n9))])] [(Ob.g 90 [(AV.ptr 0 0 0 0), (AV.ofl 1 1)]), (Ob.f 5 1 es)] (TV.tup []) [(Ob.g 90 [(AV.ptr 0 0 0 0), (AV.ofl 1 2)]), Ob.no, (Ob.f 5 1 es34)]) ∧ (prF_list_L0 R list dotted (IntKind.wrap .i64 (i + 1)) es34)))))) ∧ ((dotted = false) → (∃ es35 : List (List FV), ((Fn Tryz.prog 58 [(TV.one (AV.ptr 0 0 0 90)), (TV.agg [(AV.fz (FV.int .i64 n8)), (AV.fz (FV.str s2)), (AV.fz (FV.bool b2)), (AV.fz (FV.sl 1 es25)), (AV.fz (FV.sl 6 es26)), (AV.fz (FV.int .i64 n9))])] [(Ob.g 90 [(AV.ptr 0 0 0 0), (AV.ofl 1 1)]), (Ob.f 5 1 es)] (TV.tup []) [(Ob.g 90 [(AV.ptr 0 0 0 0), (AV.ofl 1 2)]), Ob.no, (Ob.f 5 1 es35)]) ∧ (prF_list_L0 R list dotted (IntKind.wrap .i64 (i + 1)) es35)))))))))))))))) ∧ (((decide (i < (((List.length list) : Nat) : Int))) = false) → (∃ es36 : List (List FV), ((Fn Tryz.prog 63 [(TV.one (AV.ptr 0 0 0 90)), (TV.one (AV.fz (FV.int .u8 41)))] [(Ob.g 90 [(AV.ptr 0 0 0 0), (AV.ofl 1 1)]), (Ob.f 5 1 es)] (TV.one (AV.fz (FV.ifc false))) [(Ob.g 90 [(AV.ptr 0 0 0 0), (AV.ofl 1 2)]), Ob.no, (Ob.f 5 1 es36)]) ∧ (R (TV.tup []) [(Ob.g 90 [(AV.ptr 0 0 0 0), (AV.ofl 1 1)]), (Ob.f 5 1 es36)])))))
theorem prF_list_l0 {R : TV → List Ob → Prop} {list : List (List FV)} {dotted : Bool} {i : Int} {es : List (List FV)} (h : prF_list_R0 R list dotted i es) : prF_list_L0 R list dotted i es :=
  LoopAt.by_tr (by kernel_rfl) (by kernel_rfl) h
def prF_list_H (R : TV → List Ob → Prop) (list : List (List FV)) (dotted : Bool) : Prop :=
  (∃ es25 : List (List FV), ((Fn Tryz.prog 63 [(TV.one (AV.ptr 0 0 0 90)), (TV.one (AV.fz (FV.int .u8 40)))] [(Ob.g 90 [(AV.fz FV.nilp), (AV.nsl 1)])] (TV.one (AV.fz (FV.ifc false))) [(Ob.g 90 [(AV.ptr 0 0 0 0), (AV.ofl 1 1)]), (Ob.f 5 1 es25)]) ∧ (prF_list_L0 R list dotted 0 es25)))
theorem prF_list_fn (list : List (List FV)) (dotted : Bool) {r : TV} {h : List Ob} (H : prF_list_H (fun r' h' => r' = r ∧ Wk h' h) list dotted) : Fn Tryz.prog 92 [(TV.one (AV.ptr 0 0 0 90)), (TV.one (AV.fz (FV.sl 6 list))), (TV.one (AV.fz (FV.bool dotted)))] [(Ob.g 90 [(AV.fz FV.nilp), (AV.nsl 1)])] r h :=
  Fn.by_trW (M := (modeOf [] [(63, [(Sig.mk 1 [(false, [(AT.a (AV.fz (FV.ifc false)))])] [(OT.g 90 [(AT.a (AV.ptr 0 0 0 0)), (AT.a (AV.ofl 1 1))]), (OT.f 5 1)] 0), (Sig.mk 2 [(false, [(AT.a (AV.fz (FV.ifc false)))])] [(OT.g 90 [(AT.a (AV.ptr 0 0 0 0)), (AT.a (AV.ofl 1 2))]), OT.no, (OT.f 5 1)] 0)]), (65, [(Sig.mk 1 [(false, [(AT.k (CK.int .i64))]), (false, [(AT.a (AV.fz (FV.ifc false)))])] [(OT.g 90 [(AT.a (AV.ptr 0 0 0 0)), (AT.a (AV.ofl 1 1))]), (OT.f 5 1)] 0), (Sig.mk 2 [(false, [(AT.k (CK.int .i64))]), (false, [(AT.a (AV.fz (FV.ifc false)))])] [(OT.g 90 [(AT.a (AV.ptr 0 0 0 0)), (AT.a (AV.ofl 1 2))]), OT.no, (OT.f 5 1)] 0)]), (58, [(Sig.mk 1 [] [(OT.g 90 [(AT.a (AV.ptr 0 0 0 0)), (AT.a (AV.ofl 1 1))]), (OT.f 5 1)] 0), (Sig.mk 2 [] [(OT.g 90 [(AT.a (AV.ptr 0 0 0 0)), (AT.a (AV.ofl 1 2))]), OT.no, (OT.f 5 1)] 0)])])) (lv := prF_list_lv) (own := (some 1)) (F := Tryz.f92) (by kernel_rfl) (by kernel_rfl) (by first | decide | simp) (fun _ _ h => h) (by kernel_rfl) H
def prF_datum_lv : List Nat → Keep := lvOf []
def prF_datum_H (R : TV → List Ob → Prop) (d0 : Int) (d1 : ByteArray) (d2 : Bool) (d3 : List (List FV)) (d4 : List (List FV)) (d5 : Int) : Prop :=
  ((((d0 == 1) = true) → (∃ es12 : List (List FV), ((Fn Tryz.prog 92 [(TV.one (AV.ptr 0 0 0 90)), (TV.one (AV.fz (FV.sl 6 d4))), (TV.one (AV.fz (FV.bool (d0 == 2))))] [(Ob.g 90 [(AV.fz FV.nilp), (AV.nsl 1)])] (TV.tup []) [(Ob.g 90 [(AV.ptr 0 0 0 0), (AV.ofl 1 1)]), (Ob.f 5 1 es12)]) ∧ (R (TV.tup []) [(Ob.g 90 [(AV.ptr 0 0 0 0), (AV.ofl 1 1)]), (Ob.f 5 1 es12)])))) ∧ (((d0 == 1) = false) → ((((d0 == 2) = true) → (∃ es13 : List (List FV), ((Fn Tryz.prog 92 [(TV.one (AV.ptr 0 0 0 90)), (TV.one (AV.fz (FV.sl 6 d4))), (TV.one (AV.fz (FV.bool (d0 == 2))))] [(Ob.g 90 [(AV.fz FV.nilp), (AV.nsl 1)])] (TV.tup []) [(Ob.g 90 [(AV.ptr 0 0 0 0), (AV.ofl 1 1)]), (Ob.f 5 1 es13)]) ∧ (R (TV.tup []) [(Ob.g 90 [(AV.ptr 0 0 0 0), (AV.ofl 1 1)]), (Ob.f 5 1 es13)])))) ∧ (((d0 == 2) = false) → ((((d0 == 3) = true) → (∃ es14 : List (List FV), ((Fn Tryz.prog 63 [(TV.one (AV.ptr 0 0 0 90)), (TV.one (AV.fz (FV.int .u8 35)))] [(Ob.g 90 [(AV.fz FV.nilp), (AV.nsl 1)])] (TV.one (AV.fz (FV.ifc false))) [(Ob.g 90 [(AV.ptr 0 0 0 0), (AV.ofl 1 1)]), (Ob.f 5 1 es14)]) ∧ (∃ es15 : List (List FV), ((Fn Tryz.prog 92 [(TV.one (AV.ptr 0 0 0 90)), (TV.one (AV.fz (FV.sl 6 d4))), (TV.one (AV.fz (FV.bool false)))] [(Ob.g 90 [(AV.ptr 0 0 0 0), (AV.ofl 1 1)]), (Ob.f 5 1 es14)] (TV.tup []) [(Ob.g 90 [(AV.ptr 0 0 0 0), (AV.ofl 1 2)]), Ob.no, (Ob.f 5 1 es15)]) ∧ (R (TV.tup []) [(Ob.g 90 [(AV.ptr 0 0 0 0), (AV.ofl 1 1)]), (Ob.f 5 1 es15)])))))) ∧ (((d0 == 3) = false) → ((((d0 == 4) = true) → (∃ es16 : List (List FV), (∃ n11 : Int, ((Fn Tryz.prog 65 [(TV.one (AV.ptr 0 0 0 90)), (TV.one (AV.fz (FV.str d1)))] [(Ob.g 90 [(AV.fz FV.nilp), (AV.nsl 1)])] (TV.tup [(false, [(AV.fz (FV.int .i64 n11))]), (false, [(AV.fz (FV.ifc false))])]) [(Ob.g 90 [(AV.ptr 0 0 0 0), (AV.ofl 1 1)]), (Ob.f 5 1 es16)]) ∧ (R (TV.tup []) [(Ob.g 90 [(AV.ptr 0 0 0 0), (AV.ofl 1 1)]), (Ob.f 5 1 es16)]))))) ∧ (((d0 == 4) = false) → ((((d0 == 5) = true) → (∃ s3 : ByteArray, ((Fn Tryz.prog 24 [(TV.one (AV.fz (FV.str d1)))] [] (TV.one (AV.fz (FV.str s3))) []) ∧ (∃ es17 : List (List FV), (∃ n12 : Int, ((Fn Tryz.prog 65 [(TV.one (AV.ptr 0 0 0 90)), (TV.one (AV.fz (FV.str s3)))] [(Ob.g 90 [(AV.fz FV.nilp), (AV.nsl 1)])] (TV.tup [(false, [(AV.fz (FV.int .i64 n12))]), (false, [(AV.fz (FV.ifc false))])]) [(Ob.g 90 [(AV.ptr 0 0 0 0), (AV.ofl 1 1)]), (Ob.f 5 1 es17)]) ∧ (R (TV.tup []) [(Ob.g 90 [(AV.ptr 0 0 0 0), (AV.ofl 1 1)]), (Ob.f 5 1 es17)]))))))) ∧ (((d0 == 5) = false) → ((((d0 == 6) = true) → (∃ n13 : Int, (∃ n14 : Int, ((Fn Tryz.prog 64 [(TV.one (AV.fz (FV.str d1)))] [] (TV.tup [(false, [(AV.fz (FV.int .i32 n13))]), (false, [(AV.fz (FV.int .i64 n14))])]) []) ∧ (∃ s4 : ByteArray, (∃ n15 : Int, ((Fn Tryz.prog 93 [(TV.one (AV.fz (FV.int .i64 (IntKind.wrap .i64 n13))))] [] (TV.tup [(false, [(AV.fz (FV.str s4))]), (false, [(AV.fz (FV.int .i64 n15))])]) []) ∧ ((((ByteArray.size (ByteArray.mk #[35, 92])) + (ByteArray.size s4)) ≤ 9223372036854775807) ∧ (∃ es18 : List (List FV), (∃ n16 : Int, ((Fn Tryz.prog 65 [(TV.one (AV.ptr 0 0 0 90)), (TV.one (AV.fz (FV.str ((ByteArray.mk #[35, 92]) ++ s4))))] [(Ob.g 90 [(AV.fz FV.nilp), (AV.nsl 1)])] (TV.tup [(false, [(AV.fz (FV.int .i64 n16))]), (false, [(AV.fz (FV.ifc false))])]) [(Ob.g 90 [(AV.ptr 0 0 0 0), (AV.ofl 1 1)]), (Ob.f 5 1 es18)]) ∧ (R (TV.tup []) [(Ob.g 90 [(AV.ptr 0 0 0 0), (AV.ofl 1 1)]), (Ob.f 5 1 es18)])))))))))))) ∧ (((d0 == 6) = false) → ((((d0 == 7) = true) → (∃ s5 : ByteArray, ((Fn Tryz.prog 94 [(TV.agg [(AV.fz (FV.bool d2)), (AV.fz (FV.sl 1 d3))])] [] (TV.one (AV.fz (FV.str s5))) []) ∧ (∃ es19 : List (List FV), (∃ n17 : Int, ((Fn Tryz.prog 65 [(TV.one (AV.ptr 0 0 0 90)), (TV.one (AV.fz (FV.str s5)))] [(Ob.g 90 [(AV.fz FV.nilp), (AV.nsl 1)])] (TV.tup [(false, [(AV.fz (FV.int .i64 n17))]), (false, [(AV.fz (FV.ifc false))])]) [(Ob.g 90 [(AV.ptr 0 0 0 0), (AV.ofl 1 1)]), (Ob.f 5 1 es19)]) ∧ (R (TV.tup []) [(Ob.g 90 [(AV.ptr 0 0 0 0), (AV.ofl 1 1)]), (Ob.f 5 1 es19)]))))))) ∧ (((d0 == 7) = false) → ((((d0 == 8) = true) → (∃ es20 : List (List FV), (∃ n18 : Int, ((Fn Tryz.prog 65 [(TV.one (AV.ptr 0 0 0 90)), (TV.one (AV.fz (FV.str (ByteArray.mk #[35, 116]))))] [(Ob.g 90 [(AV.fz FV.nilp), (AV.nsl 1)])] (TV.tup [(false, [(AV.fz (FV.int .i64 n18))]), (false, [(AV.fz (FV.ifc false))])]) [(Ob.g 90 [(AV.ptr 0 0 0 0), (AV.ofl 1 1)]), (Ob.f 5 1 es20)]) ∧ (R (TV.tup []) [(Ob.g 90 [(AV.ptr 0 0 0 0), (AV.ofl 1 1)]), (Ob.f 5 1 es20)]))))) ∧ (((d0 == 8) = false) → ((((d0 == 9) = true) → (∃ es21 : List (List FV), (∃ n19 : Int, ((Fn Tryz.prog 65 [(TV.one (AV.ptr 0 0 0 90)), (TV.one (AV.fz (FV.str (ByteArray.mk #[35, 102]))))] [(Ob.g 90 [(AV.fz FV.nilp), (AV.nsl 1)])] (TV.tup [(false, [(AV.fz (FV.int .i64 n19))]), (false, [(AV.fz (FV.ifc false))])]) [(Ob.g 90 [(AV.ptr 0 0 0 0), (AV.ofl 1 1)]), (Ob.f 5 1 es21)]) ∧ (R (TV.tup []) [(Ob.g 90 [(AV.ptr 0 0 0 0), (AV.ofl 1 1)]), (Ob.f 5 1 es21)]))))) ∧ (((d0 == 9) = false) → ((((d0 == 10) = true) → (∃ es22 : List (List FV), (∃ n20 : Int, ((Fn Tryz.prog 65 [(TV.one (AV.ptr 0 0 0 90)), (TV.one (AV.fz (FV.str (ByteArray.mk #[35, 60, 118, 111, 105, 100, 62]))))] [(Ob.g 90 [(AV.fz FV.nilp), (AV.nsl 1)])] (TV.tup [(false, [(AV.fz (FV.int .i64 n20))]), (false, [(AV.fz (FV.ifc false))])]) [(Ob.g 90 [(AV.ptr 0 0 0 0), (AV.ofl 1 1)]), (Ob.f 5 1 es22)]) ∧ (R (TV.tup []) [(Ob.g 90 [(AV.ptr 0 0 0 0), (AV.ofl 1 1)]), (Ob.f 5 1 es22)]))))) ∧ (((d0 == 10) = false) → ((((ByteArray.size (ByteArray.mk #[35, 60])) + (ByteArray.size d1)) ≤ 9223372036854775807) ∧ ((((ByteArray.size ((ByteArray.mk #[35, 60]) ++ d1)) + (ByteArray.size (ByteArray.mk #[62]))) ≤ 9223372036854775807) ∧ (∃ es23 : List (List FV), (∃ n21 : Int, ((Fn Tryz.prog 65 [(TV.one (AV.ptr 0 0 0 90)), (TV.one (AV.fz (FV.str (((ByteArray.mk #[35, 60]) ++ d1) ++ (ByteArray.mk #[62])))))] [(Ob.g 90 [(AV.fz FV.nilp), (AV.nsl 1)])] (TV.tup [(false, [(AV.fz (FV.int .i64 n21))]), (false, [(AV.fz (FV.ifc false))])]) [(Ob.g 90 [(AV.ptr 0 0 0 0), (AV.ofl 1 1)]), (Ob.f 5 1 es23)]) ∧ (R (TV.tup []) [(Ob.g 90 [(AV.ptr 0 0 0 0), (AV.ofl 1 1)]), (Ob.f 5 1 es23)]))))))))))))))))))))))))))
theorem prF_datum_fn (d0 : Int) (d1 : ByteArray) (d2 : Bool) (d3 : List (List FV)) (d4 : List (List FV)) (d5 : Int) {r : TV} {h : List Ob} (H : prF_datum_H (fun r' h' => r' = r ∧ Wk h' h) d0 d1 d2 d3 d4 d5) : Fn Tryz.prog 58 [(TV.one (AV.ptr 0 0 0 90)), (TV.agg [(AV.fz (FV.int .i64 d0)), (AV.fz (FV.str d1)), (AV.fz (FV.bool d2)), (AV.fz (FV.sl 1 d3)), (AV.fz (FV.sl 6 d4)), (AV.fz (FV.int .i64 d5))])] [(Ob.g 90 [(AV.fz FV.nilp), (AV.nsl 1)])] r h :=
  Fn.by_trW (M := (modeOf [] [(63, [(Sig.mk 1 [(false, [(AT.a (AV.fz (FV.ifc false)))])] [(OT.g 90 [(AT.a (AV.ptr 0 0 0 0)), (AT.a (AV.ofl 1 1))]), (OT.f 5 1)] 0), (Sig.mk 2 [(false, [(AT.a (AV.fz (FV.ifc false)))])] [(OT.g 90 [(AT.a (AV.ptr 0 0 0 0)), (AT.a (AV.ofl 1 2))]), OT.no, (OT.f 5 1)] 0)]), (65, [(Sig.mk 1 [(false, [(AT.k (CK.int .i64))]), (false, [(AT.a (AV.fz (FV.ifc false)))])] [(OT.g 90 [(AT.a (AV.ptr 0 0 0 0)), (AT.a (AV.ofl 1 1))]), (OT.f 5 1)] 0), (Sig.mk 2 [(false, [(AT.k (CK.int .i64))]), (false, [(AT.a (AV.fz (FV.ifc false)))])] [(OT.g 90 [(AT.a (AV.ptr 0 0 0 0)), (AT.a (AV.ofl 1 2))]), OT.no, (OT.f 5 1)] 0)]), (92, [(Sig.mk 1 [] [(OT.g 90 [(AT.a (AV.ptr 0 0 0 0)), (AT.a (AV.ofl 1 1))]), (OT.f 5 1)] 0), (Sig.mk 2 [] [(OT.g 90 [(AT.a (AV.ptr 0 0 0 0)), (AT.a (AV.ofl 1 2))]), OT.no, (OT.f 5 1)] 0)])])) (lv := prF_datum_lv) (own := (some 1)) (F := Tryz.f58) (by kernel_rfl) (by kernel_rfl) (by first | decide | simp) (fun _ _ h => h) (by kernel_rfl) H
end Go.Proofs.YtejefchehdifhaaGreatDoor.Ev
end
section
set_option linter.unusedVariables false
namespace Go.Proofs.YtejefchehdifhaaGreatDoor.Ev
open Go
theorem FnC.args {P : Program} {C : Array Value → World → (Ending → World → Prop) → Prop} {E : Ending → Value → Prop} {xs ys : List TV} {h : List Ob} {r : TV} {h' : List Ob} (hl : xs.length = ys.length)
    (hr : ∀ (i : Nat) (x : TV), xs[i]? = some x → ∃ y, ys[i]? = some y ∧ ∀ (w : World) (B : Nat → Prop) (locs : Nat → Option Loc) (v : Value), RT w B locs y v → RT w B locs x v)
    (F : FnC P C E xs h r h') : FnC P C E ys h r h' := by
  intro ext w locs vals H hsz hrep
  refine F ext w locs vals H (by rw [hsz, hl]) (fun i x hi => ?_)
  obtain ⟨y, hy, himp⟩ := hr i x hi
  obtain ⟨v, hv, hv2⟩ := hrep i y hy
  exact ⟨v, hv, himp _ _ _ _ hv2⟩
theorem FnC.ptr1 {P : Program} {C : Array Value → World → (Ending → World → Prop) → Prop} {E : Ending → Value → Prop} {o e c ty : Nat} (ty' : Nat) {xs : List TV} {h : List Ob} {r : TV} {h' : List Ob}
    (F : FnC P C E (.one (.ptr o e c ty) :: xs) h r h') : FnC P C E (.one (.ptr o e c ty') :: xs) h r h' := by
  refine FnC.args (by simp) (fun i x hi => ?_) F
  cases i with
  | zero => cases hi; exact ⟨_, rfl, fun _ _ _ _ h => h⟩
  | succ i => exact ⟨x, hi, fun _ _ _ _ h => h⟩
end Go.Proofs.YtejefchehdifhaaGreatDoor.Ev
end
section
set_option linter.unusedVariables false
set_option maxRecDepth 100000
namespace Go.Proofs.YtejefchehdifhaaGreatDoor.Ev
open Go
def prU_list_lv : List Nat → Keep := lvOf [([0, 1, 0, 1], ⟨28679, 0, [], false, false⟩)]
def prU_list_S0 (list : List (List FV)) (dotted : Bool) (i : Int) (es : List (List FV)) : St := (St.mk [(TV.one (AV.ptr 0 0 0 90)), (TV.one (AV.fz (FV.sl 6 list))), (TV.one (AV.fz (FV.bool dotted))), TV.und, TV.und, TV.und, TV.und, TV.und, TV.und, TV.und, TV.und, TV.und, (TV.one (AV.fz (FV.sl 6 list))), (TV.one (AV.fz (FV.int .i64 (((List.length list) : Nat) : Int)))), (TV.one (AV.fz (FV.int .i64 i))), TV.und, TV.und, TV.und, TV.und, TV.und, TV.und, TV.und, TV.und, TV.und, TV.und, TV.und, TV.und, TV.und, TV.und, TV.und, TV.und, TV.und, TV.und, TV.und, TV.und, TV.und, TV.und, TV.und, TV.und, TV.und, TV.und, TV.und, TV.und, TV.und, TV.und] [(Ob.g 90 [(AV.ptr 0 0 0 0), (AV.ofl 1 2)]), Ob.no, (Ob.f 5 1 es)])
def prU_list_L0 (R : TV → List Ob → Prop) (list : List (List FV)) (dotted : Bool) (i : Int) (es : List (List FV)) : Prop := LoopAt Tryz.prog (modeOf [] [(63, [(Sig.mk 1 [(false, [(AT.a (AV.fz (FV.ifc false)))])] [(OT.g 90 [(AT.a (AV.ptr 0 0 0 0)), (AT.a (AV.ofl 1 1))]), (OT.f 5 1)] 0), (Sig.mk 2 [(false, [(AT.a (AV.fz (FV.ifc false)))])] [(OT.g 90 [(AT.a (AV.ptr 0 0 0 0)), (AT.a (AV.ofl 1 2))]), OT.no, (OT.f 5 1)] 0)]), (65, [(Sig.mk 1 [(false, [(AT.k (CK.int .i64))]), (false, [(AT.a (AV.fz (FV.ifc false)))])] [(OT.g 90 [(AT.a (AV.ptr 0 0 0 0)), (AT.a (AV.ofl 1 1))]), (OT.f 5 1)] 0), (Sig.mk 2 [(false, [(AT.k (CK.int .i64))]), (false, [(AT.a (AV.fz (FV.ifc false)))])] [(OT.g 90 [(AT.a (AV.ptr 0 0 0 0)), (AT.a (AV.ofl 1 2))]), OT.no, (OT.f 5 1)] 0)]), (58, [(Sig.mk 1 [] [(OT.g 90 [(AT.a (AV.ptr 0 0 0 0)), (AT.a (AV.ofl 1 1))]), (OT.f 5 1)] 0), (Sig.mk 2 [] [(OT.g 90 [(AT.a (AV.ptr 0 0 0 0)), (AT.a (AV.ofl 1 2))]), OT.no, (OT.f 5 1)] 0)])]) prU_list_lv Tryz.f92 (some 2) R [1, 0, 1, 0] (prU_list_S0 list dotted i es)
def prU_list_R0 (R : TV → List Ob → Prop) (list : List (List FV)) (dotted : Bool) (i : Int) (es : List (List FV)) : Prop :=
  ((((decide (i < (((List.length list) : Nat) : Int))) = true) → (((0 : Int) ≤ i) ∧ (∃ n8 : Int, (∃ s2 : ByteArray, (∃ b2 : Bool, (∃ es25 : List (List FV), (∃ es26 : List (List FV), (∃ n9 : Int, (((list)[(Int.toNat i)]? = (some [(FV.int .i64 n8), (FV.str s2), (FV.bool b2), (FV.sl 1 es25), (FV.sl 6 es26), (FV.int .i64 n9)])) ∧ ((((decide ((0 : Int) < i)) = true) → (∃ es27 : List (List FV), ((Fn Tryz.prog 63 [(TV.one (AV.ptr 0 0 0 90)), (TV.one (AV.fz (FV.int .u8 32)))] [(Ob.g 90 [(AV.ptr 0 0 0 0), (AV.ofl 1 1)]), (Ob.f 5 1 es)] (TV.one (AV.fz (FV.ifc false))) [(Ob.g 90 [(AV.ptr 0 0 0 0), (AV.ofl 1 2)]), Ob.no, (Ob.f 5 1 es27)]) ∧ (((dotted = true) → ((((i == (IntKind.wrap .i64 ((((List.length list) : Nat) : Int) - 1))) = true) → (∃ es28 : List (List FV), (∃ n10 : Int, ((Fn Tryz.prog 65 [(TV.one (AV.ptr 0 0 0 90)), (TV.one (AV.fz (FV.str (ByteArray.mk #[46, 32]))))] [(Ob.g 90 [(AV.ptr 0 0 0 0), (AV.ofl 1 1)]), (Ob.f 5 1 es27)] (TV.tup [(false, [(AV.fz (FV.int .i64 n10))]), (false, [(AV.fz (FV.ifc false))])]) [(Ob.g 90 [(AV.ptr 0 0 0 0), (AV.ofl 1 2)]), Ob.no, (Ob.f 5 1 es28)]) ∧ (∃ es29 : List (List FV), ((Fn Tryz.prog 58 [(TV.one (AV.ptr 0 0 0 90)), (TV.agg [(AV.fz (FV.int .i64 n8)), (AV.fz (FV.str s2)), (AV.fz (FV.bool b2)), (AV.fz (FV.sl 1 es25)), (AV.fz (FV.sl 6 es26)), (AV.fz (FV.int .i64 n9))])] [(Ob.g 90 [(AV.ptr 0 0 0 0), (AV.ofl 1 1)]), (Ob.f 5 1 es28)] (TV.tup []) [(Ob.g 90 [(AV.ptr 0 0 0 0), (AV.ofl 1 2)]), Ob.no, (Ob.f 5 1 es29)]) ∧ (prU_list_L0 R list dotted (IntKind.wrap .i64 (i + 1)) es29))))))) ∧ (((i == (IntKind.wrap .i64 ((((List.length list) : Nat) : Int) - 1))) = false) → (∃ es30 : List (List FV), ((Fn Tryz.prog 58 [(TV.one (AV.ptr 0 0 0 90)), (TV.agg [(AV.fz (FV.int .i64 n8)), (AV.fz (FV.str s2)), (AV.fz (FV.bool b2)), (AV.fz (FV.sl 1 es25)), (AV.fz (FV.sl 6 es26)), (AV.fz (FV.int .i64 n9))])] [(Ob.g 90 [(AV.ptr 0 0 0 0), (AV.ofl 1 1)]), (Ob.f 5 1 es27)] (TV.tup []) [(Ob.g 90 [(AV.ptr 0 0 0 0), (AV.ofl 1 2)]), Ob.no, (Ob.f 5 1 es30)]) ∧ (prU_list_L0 R list dotted (IntKind.wrap .i64 (i + 1)) es30)))))) ∧ ((dotted = false) → (∃ es31 : List (List FV), ((Fn Tryz.prog 58 [(TV.one (AV.ptr 0 0 0 90)), (TV.agg [(AV.fz (FV.int .i64 n8)), (AV.fz (FV.str s2)), (AV.fz (FV.bool b2)), (AV.fz (FV.sl 1 es25)), (AV.fz (FV.sl 6 es26)), (AV.fz (FV.int .i64 n9))])] [(Ob.g 90 [(AV.ptr 0 0 0 0), (AV.ofl 1 1)]), (Ob.f 5 1 es27)] (TV.tup []) [(Ob.g 90 [(AV.ptr 0 0 0 0), (AV.ofl 1 2)]), Ob.no, (Ob.f 5 1 es31)]) ∧ (prU_list_L0 R list dotted (IntKind.wrap .i64 (i + 1)) es31)))))))) ∧ (((decide ((0 : Int) < i)) = false) → (((dotted = true) → ((((i == (IntKind.wrap .i64 ((((List.length list) : Nat) : Int) - 1))) = true) → (∃ es32 : List (List FV), (∃ n11 : Int, ((Fn Tryz.prog 65 [(TV.one (AV.ptr 0 0 0 90)), (TV.one (AV.fz (FV.str (ByteArray.mk #[46, 32]))))] [(Ob.g 90 [(AV.ptr 0 0 0 0), (AV.ofl 1 1)]), (Ob.f 5 1 es)] (TV.tup [(false, [(AV.fz (FV.int .i64 n11))]), (false, [(AV.fz (FV.ifc false))])]) [(Ob.g 90 [(AV.ptr 0 0 0 0), (AV.ofl 1 2)]), Ob.no, (Ob.f 5 1 es32)]) ∧ (∃ es33 : List (List FV), ((Fn Tryz.prog 58 [(TV.one (AV.ptr 0 0 0 90)), (TV.agg [(AV.fz (FV.int .i64 n8)), (AV.fz (FV.str s2)), (AV.fz (FV.bool b2)), (AV.fz (FV.sl 1 es25)), (AV.fz (FV.sl 6 es26)), (AV.fz (FV.int .i64 n9))])] [(Ob.g 90 [(AV.ptr 0 0 0 0), (AV.ofl 1 1)]), (Ob.f 5 1 es32)] (TV.tup []) [(Ob.g 90 [(AV.ptr 0 0 0 0), (AV.ofl 1 2)]), Ob.no, (Ob.f 5 1 es33)]) ∧ (prU_list_L0 R list dotted (IntKind.wrap .i64 (i + 1)) es33))))))) ∧ (((i == (IntKind.wrap .i64 ((((List.length list) : Nat) : Int) - 1))) = false) → (∃ es34 : List (List FV), ((Fn Tryz.prog 58 [(TV.one (AV.ptr 0 0 0 90)), (TV.agg [(AV.fz (FV.int .i64 n8)), (AV.fz (FV.str s2)), (AV.fz (FV.bool b2)), (AV.fz (FV.sl 1 es25)), (AV.fz (FV.sl 6 es26)), (AV.fz (FV.int .i64 n9))])] [(Ob.g 90 [(AV.ptr 0 0 0 0), (AV.ofl 1 1)]), (Ob.f 5 1 es)] (TV.tup []) [(Ob.g 90 [(AV.ptr 0 0 0 0), (AV.ofl 1 2)]), Ob.no, (Ob.f 5 1 es34)]) ∧ (prU_list_L0 R list dotted (IntKind.wrap .i64 (i + 1)) es34)))))) ∧ ((dotted = false) → (∃ es35 : List (List FV), ((Fn Tryz.prog 58 [(TV.one (AV.ptr 0 0 0 90)), (TV.agg [(AV.fz (FV.int .i64 n8)), (AV.fz (FV.str s2)), (AV.fz (FV.bool b2)), (AV.fz (FV.sl 1 es25)), (AV.fz (FV.sl 6 es26)), (AV.fz (FV.int .i64 n9))])] [(Ob.g 90 [(AV.ptr 0 0 0 0), (AV.ofl 1 1)]), (Ob.f 5 1 es)] (TV.tup []) [(Ob.g 90 [(AV.ptr 0 0 0 0), (AV.ofl 1 2)]), Ob.no, (Ob.f 5 1 es35)]) ∧ (prU_list_L0 R list dotted (IntKind.wrap .i64 (i + 1)) es35)))))))))))))))) ∧ (((decide (i < (((List.length list) : Nat) : Int))) = false) → (∃ es36 : List (List FV), ((Fn Tryz.prog 63 [(TV.one (AV.ptr 0 0 0 90)), (TV.one (AV.fz (FV.int .u8 41)))] [(Ob.g 90 [(AV.ptr 0 0 0 0), (AV.ofl 1 1)]), (Ob.f 5 1 es)] (TV.one (AV.fz (FV.ifc false))) [(Ob.g 90 [(AV.ptr 0 0 0 0), (AV.ofl 1 2)]), Ob.no, (Ob.f 5 1 es36)]) ∧ (R (TV.tup []) [(Ob.g 90 [(AV.ptr 0 0 0 0), (AV.ofl 1 2)]), Ob.no, (Ob.f 5 1 es36)])))))
theorem prU_list_l0 {R : TV → List Ob → Prop} {list : List (List FV)} {dotted : Bool} {i : Int} {es : List (List FV)} (h : prU_list_R0 R list dotted i es) : prU_list_L0 R list dotted i es :=
  LoopAt.by_tr (by kernel_rfl) (by kernel_rfl) h
def prU_list_H (R : TV → List Ob → Prop) (list : List (List FV)) (dotted : Bool) (o : List (List FV)) : Prop :=
  (∃ es25 : List (List FV), ((Fn Tryz.prog 63 [(TV.one (AV.ptr 0 0 0 90)), (TV.one (AV.fz (FV.int .u8 40)))] [(Ob.g 90 [(AV.ptr 0 0 0 0), (AV.ofl 1 1)]), (Ob.f 5 1 o)] (TV.one (AV.fz (FV.ifc false))) [(Ob.g 90 [(AV.ptr 0 0 0 0), (AV.ofl 1 2)]), Ob.no, (Ob.f 5 1 es25)]) ∧ (prU_list_L0 R list dotted 0 es25)))
theorem prU_list_fn (list : List (List FV)) (dotted : Bool) (o : List (List FV)) {r : TV} {h : List Ob} (H : prU_list_H (fun r' h' => r' = r ∧ Wk h' h) list dotted o) : Fn Tryz.prog 92 [(TV.one (AV.ptr 0 0 0 90)), (TV.one (AV.fz (FV.sl 6 list))), (TV.one (AV.fz (FV.bool dotted)))] [(Ob.g 90 [(AV.ptr 0 0 0 0), (AV.ofl 1 1)]), (Ob.f 5 1 o)] r h :=
  Fn.by_trW (M := (modeOf [] [(63, [(Sig.mk 1 [(false, [(AT.a (AV.fz (FV.ifc false)))])] [(OT.g 90 [(AT.a (AV.ptr 0 0 0 0)), (AT.a (AV.ofl 1 1))]), (OT.f 5 1)] 0), (Sig.mk 2 [(false, [(AT.a (AV.fz (FV.ifc false)))])] [(OT.g 90 [(AT.a (AV.ptr 0 0 0 0)), (AT.a (AV.ofl 1 2))]), OT.no, (OT.f 5 1)] 0)]), (65, [(Sig.mk 1 [(false, [(AT.k (CK.int .i64))]), (false, [(AT.a (AV.fz (FV.ifc false)))])] [(OT.g 90 [(AT.a (AV.ptr 0 0 0 0)), (AT.a (AV.ofl 1 1))]), (OT.f 5 1)] 0), (Sig.mk 2 [(false, [(AT.k (CK.int .i64))]), (false, [(AT.a (AV.fz (FV.ifc false)))])] [(OT.g 90 [(AT.a (AV.ptr 0 0 0 0)), (AT.a (AV.ofl 1 2))]), OT.no, (OT.f 5 1)] 0)]), (58, [(Sig.mk 1 [] [(OT.g 90 [(AT.a (AV.ptr 0 0 0 0)), (AT.a (AV.ofl 1 1))]), (OT.f 5 1)] 0), (Sig.mk 2 [] [(OT.g 90 [(AT.a (AV.ptr 0 0 0 0)), (AT.a (AV.ofl 1 2))]), OT.no, (OT.f 5 1)] 0)])])) (lv := prU_list_lv) (own := (some 2)) (F := Tryz.f92) (by kernel_rfl) (by kernel_rfl) (by first | decide | simp) (fun _ _ h => h) (by kernel_rfl) H
def prU_datum_lv : List Nat → Keep := lvOf []
def prU_datum_H (R : TV → List Ob → Prop) (d0 : Int) (d1 : ByteArray) (d2 : Bool) (d3 : List (List FV)) (d4 : List (List FV)) (d5 : Int) (o : List (List FV)) : Prop :=
  ((((d0 == 1) = true) → (∃ es12 : List (List FV), ((Fn Tryz.prog 92 [(TV.one (AV.ptr 0 0 0 90)), (TV.one (AV.fz (FV.sl 6 d4))), (TV.one (AV.fz (FV.bool (d0 == 2))))] [(Ob.g 90 [(AV.ptr 0 0 0 0), (AV.ofl 1 1)]), (Ob.f 5 1 o)] (TV.tup []) [(Ob.g 90 [(AV.ptr 0 0 0 0), (AV.ofl 1 2)]), Ob.no, (Ob.f 5 1 es12)]) ∧ (R (TV.tup []) [(Ob.g 90 [(AV.ptr 0 0 0 0), (AV.ofl 1 2)]), Ob.no, (Ob.f 5 1 es12)])))) ∧ (((d0 == 1) = false) → ((((d0 == 2) = true) → (∃ es13 : List (List FV), ((Fn Tryz.prog 92 [(TV.one (AV.ptr 0 0 0 90)), (TV.one (AV.fz (FV.sl 6 d4))), (TV.one (AV.fz (FV.bool (d0 == 2))))] [(Ob.g 90 [(AV.ptr 0 0 0 0), (AV.ofl 1 1)]), (Ob.f 5 1 o)] (TV.tup []) [(Ob.g 90 [(AV.ptr 0 0 0 0), (AV.ofl 1 2)]), Ob.no, (Ob.f 5 1 es13)]) ∧ (R (TV.tup []) [(Ob.g 90 [(AV.ptr 0 0 0 0), (AV.ofl 1 2)]), Ob.no, (Ob.f 5 1 es13)])))) ∧ (((d0 == 2) = false) → ((((d0 == 3) = true) → (∃ es14 : List (List FV), ((Fn Tryz.prog 63 [(TV.one (AV.ptr 0 0 0 90)), (TV.one (AV.fz (FV.int .u8 35)))] [(Ob.g 90 [(AV.ptr 0 0 0 0), (AV.ofl 1 1)]), (Ob.f 5 1 o)] (TV.one (AV.fz (FV.ifc false))) [(Ob.g 90 [(AV.ptr 0 0 0 0), (AV.ofl 1 2)]), Ob.no, (Ob.f 5 1 es14)]) ∧ (∃ es15 : List (List FV), ((Fn Tryz.prog 92 [(TV.one (AV.ptr 0 0 0 90)), (TV.one (AV.fz (FV.sl 6 d4))), (TV.one (AV.fz (FV.bool false)))] [(Ob.g 90 [(AV.ptr 0 0 0 0), (AV.ofl 1 1)]), (Ob.f 5 1 es14)] (TV.tup []) [(Ob.g 90 [(AV.ptr 0 0 0 0), (AV.ofl 1 2)]), Ob.no, (Ob.f 5 1 es15)]) ∧ (R (TV.tup []) [(Ob.g 90 [(AV.ptr 0 0 0 0), (AV.ofl 1 2)]), Ob.no, (Ob.f 5 1 es15)])))))) ∧ (((d0 == 3) = false) → ((((d0 == 4) = true) → (∃ es16 : List (List FV), (∃ n11 : Int, ((Fn Tryz.prog 65 [(TV.one (AV.ptr 0 0 0 90)), (TV.one (AV.fz (FV.str d1)))] [(Ob.g 90 [(AV.ptr 0 0 0 0), (AV.ofl 1 1)]), (Ob.f 5 1 o)] (TV.tup [(false, [(AV.fz (FV.int .i64 n11))]), (false, [(AV.fz (FV.ifc false))])]) [(Ob.g 90 [(AV.ptr 0 0 0 0), (AV.ofl 1 2)]), Ob.no, (Ob.f 5 1 es16)]) ∧ (R (TV.tup []) [(Ob.g 90 [(AV.ptr 0 0 0 0), (AV.ofl 1 2)]), Ob.no, (Ob.f 5 1 es16)]))))) ∧ (((d0 == 4) = false) → ((((d0 == 5) = true) → (∃ s3 : ByteArray, ((Fn Tryz.prog 24 [(TV.one (AV.fz (FV.str d1)))] [] (TV.one (AV.fz (FV.str s3))) []) ∧ (∃ es17 : List (List FV), (∃ n12 : Int, ((Fn Tryz.prog 65 [(TV.one (AV.ptr 0 0 0 90)), (TV.one (AV.fz (FV.str s3)))] [(Ob.g 90 [(AV.ptr 0 0 0 0), (AV.ofl 1 1)]), (Ob.f 5 1 o)] (TV.tup [(false, [(AV.fz (FV.int .i64 n12))]), (false, [(AV.fz (FV.ifc false))])]) [(Ob.g 90 [(AV.ptr 0 0 0 0), (AV.ofl 1 2)]), Ob.no, (Ob.f 5 1 es17)]) ∧ (R (TV.tup []) [(Ob.g 90 [(AV.ptr 0 0 0 0), (AV.ofl 1 2)]), Ob.no, (Ob.f 5 1 es17)]))))))) ∧ (((d0 == 5) = false) → ((((d0 == 6) = true) → (∃ n13 : Int, (∃ n14 : Int, ((Fn Tryz.prog 64 [(TV.one (AV.fz (FV.str d1)))] [] (TV.tup [(false, [(AV.fz (FV.int .i32 n13))]), (false, [(AV.fz (FV.int .i64 n14))])]) []) ∧ (∃ s4 : ByteArray, (∃ n15 : Int, ((Fn Tryz.prog 93 [(TV.one (AV.fz (FV.int .i64 (IntKind.wrap .i64 n13))))] [] (TV.tup [(false, [(AV.fz (FV.str s4))]), (false, [(AV.fz (FV.int .i64 n15))])]) []) ∧ ((((ByteArray.size (ByteArray.mk #[35, 92])) + (ByteArray.size s4)) ≤ 9223372036854775807) ∧ (∃ es18 : List (List FV), (∃ n16 : Int, ((Fn Tryz.prog 65 [(TV.one (AV.ptr 0 0 0 90)), (TV.one (AV.fz (FV.str ((ByteArray.mk #[35, 92]) ++ s4))))] [(Ob.g 90 [(AV.ptr 0 0 0 0), (AV.ofl 1 1)]), (Ob.f 5 1 o)] (TV.tup [(false, [(AV.fz (FV.int .i64 n16))]), (false, [(AV.fz (FV.ifc false))])]) [(Ob.g 90 [(AV.ptr 0 0 0 0), (AV.ofl 1 2)]), Ob.no, (Ob.f 5 1 es18)]) ∧ (R (TV.tup []) [(Ob.g 90 [(AV.ptr 0 0 0 0), (AV.ofl 1 2)]), Ob.no, (Ob.f 5 1 es18)])))))))))))) ∧ (((d0 == 6) = false) → ((((d0 == 7) = true) → (∃ s5 : ByteArray, ((Fn Tryz.prog 94 [(TV.agg [(AV.fz (FV.bool d2)), (AV.fz (FV.sl 1 d3))])] [] (TV.one (AV.fz (FV.str s5))) []) ∧ (∃ es19 : List (List FV), (∃ n17 : Int, ((Fn Tryz.prog 65 [(TV.one (AV.ptr 0 0 0 90)), (TV.one (AV.fz (FV.str s5)))] [(Ob.g 90 [(AV.ptr 0 0 0 0), (AV.ofl 1 1)]), (Ob.f 5 1 o)] (TV.tup [(false, [(AV.fz (FV.int .i64 n17))]), (false, [(AV.fz (FV.ifc false))])]) [(Ob.g 90 [(AV.ptr 0 0 0 0), (AV.ofl 1 2)]), Ob.no, (Ob.f 5 1 es19)]) ∧ (R (TV.tup []) [(Ob.g 90 [(AV.ptr 0 0 0 0), (AV.ofl 1 2)]), Ob.no, (Ob.f 5 1 es19)]))))))) ∧ (((d0 == 7) = false) → ((((d0 == 8) = true) → (∃ es20 : List (List FV), (∃ n18 : Int, ((Fn Tryz.prog 65 [(TV.one (AV.ptr 0 0 0 90)), (TV.one (AV.fz (FV.str (ByteArray.mk #[35, 116]))))] [(Ob.g 90 [(AV.ptr 0 0 0 0), (AV.ofl 1 1)]), (Ob.f 5 1 o)] (TV.tup [(false, [(AV.fz (FV.int .i64 n18))]), (false, [(AV.fz (FV.ifc false))])]) [(Ob.g 90 [(AV.ptr 0 0 0 0), (AV.ofl 1 2)]), Ob.no, (Ob.f 5 1 es20)]) ∧ (R (TV.tup []) [(Ob.g 90 [(AV.ptr 0 0 0 0), (AV.ofl 1 2)]), Ob.no, (Ob.f 5 1 es20)]))))) ∧ (((d0 == 8) = false) → ((((d0 == 9) = true) → (∃ es21 : List (List FV), (∃ n19 : Int, ((Fn Tryz.prog 65 [(TV.one (AV.ptr 0 0 0 90)), (TV.one (AV.fz (FV.str (ByteArray.mk #[35, 102]))))] [(Ob.g 90 [(AV.ptr 0 0 0 0), (AV.ofl 1 1)]), (Ob.f 5 1 o)] (TV.tup [(false, [(AV.fz (FV.int .i64 n19))]), (false, [(AV.fz (FV.ifc false))])]) [(Ob.g 90 [(AV.ptr 0 0 0 0), (AV.ofl 1 2)]), Ob.no, (Ob.f 5 1 es21)]) ∧ (R (TV.tup []) [(Ob.g 90 [(AV.ptr 0 0 0 0), (AV.ofl 1 2)]), Ob.no, (Ob.f 5 1 es21)]))))) ∧ (((d0 == 9) = false) → ((((d0 == 10) = true) → (∃ es22 : List (List FV), (∃ n20 : Int, ((Fn Tryz.prog 65 [(TV.one (AV.ptr 0 0 0 90)), (TV.one (AV.fz (FV.str (ByteArray.mk #[35, 60, 118, 111, 105, 100, 62]))))] [(Ob.g 90 [(AV.ptr 0 0 0 0), (AV.ofl 1 1)]), (Ob.f 5 1 o)] (TV.tup [(false, [(AV.fz (FV.int .i64 n20))]), (false, [(AV.fz (FV.ifc false))])]) [(Ob.g 90 [(AV.ptr 0 0 0 0), (AV.ofl 1 2)]), Ob.no, (Ob.f 5 1 es22)]) ∧ (R (TV.tup []) [(Ob.g 90 [(AV.ptr 0 0 0 0), (AV.ofl 1 2)]), Ob.no, (Ob.f 5 1 es22)]))))) ∧ (((d0 == 10) = false) → ((((ByteArray.size (ByteArray.mk #[35, 60])) + (ByteArray.size d1)) ≤ 9223372036854775807) ∧ ((((ByteArray.size ((ByteArray.mk #[35, 60]) ++ d1)) + (ByteArray.size (ByteArray.mk #[62]))) ≤ 9223372036854775807) ∧ (∃ es23 : List (List FV), (∃ n21 : Int, ((Fn Tryz.prog 65 [(TV.one (AV.ptr 0 0 0 90)), (TV.one (AV.fz (FV.str (((ByteArray.mk #[35, 60]) ++ d1) ++ (ByteArray.mk #[62])))))] [(Ob.g 90 [(AV.ptr 0 0 0 0), (AV.ofl 1 1)]), (Ob.f 5 1 o)] (TV.tup [(false, [(AV.fz (FV.int .i64 n21))]), (false, [(AV.fz (FV.ifc false))])]) [(Ob.g 90 [(AV.ptr 0 0 0 0), (AV.ofl 1 2)]), Ob.no, (Ob.f 5 1 es23)]) ∧ (R (TV.tup []) [(Ob.g 90 [(AV.ptr 0 0 0 0), (AV.ofl 1 2)]), Ob.no, (Ob.f 5 1 es23)]))))))))))))))))))))))))))
theorem prU_datum_fn (d0 : Int) (d1 : ByteArray) (d2 : Bool) (d3 : List (List FV)) (d4 : List (List FV)) (d5 : Int) (o : List (List FV)) {r : TV} {h : List Ob} (H : prU_datum_H (fun r' h' => r' = r ∧ Wk h' h) d0 d1 d2 d3 d4 d5 o) : Fn Tryz.prog 58 [(TV.one (AV.ptr 0 0 0 90)), (TV.agg [(AV.fz (FV.int .i64 d0)), (AV.fz (FV.str d1)), (AV.fz (FV.bool d2)), (AV.fz (FV.sl 1 d3)), (AV.fz (FV.sl 6 d4)), (AV.fz (FV.int .i64 d5))])] [(Ob.g 90 [(AV.ptr 0 0 0 0), (AV.ofl 1 1)]), (Ob.f 5 1 o)] r h :=
  Fn.by_trW (M := (modeOf [] [(63, [(Sig.mk 1 [(false, [(AT.a (AV.fz (FV.ifc false)))])] [(OT.g 90 [(AT.a (AV.ptr 0 0 0 0)), (AT.a (AV.ofl 1 1))]), (OT.f 5 1)] 0), (Sig.mk 2 [(false, [(AT.a (AV.fz (FV.ifc false)))])] [(OT.g 90 [(AT.a (AV.ptr 0 0 0 0)), (AT.a (AV.ofl 1 2))]), OT.no, (OT.f 5 1)] 0)]), (65, [(Sig.mk 1 [(false, [(AT.k (CK.int .i64))]), (false, [(AT.a (AV.fz (FV.ifc false)))])] [(OT.g 90 [(AT.a (AV.ptr 0 0 0 0)), (AT.a (AV.ofl 1 1))]), (OT.f 5 1)] 0), (Sig.mk 2 [(false, [(AT.k (CK.int .i64))]), (false, [(AT.a (AV.fz (FV.ifc false)))])] [(OT.g 90 [(AT.a (AV.ptr 0 0 0 0)), (AT.a (AV.ofl 1 2))]), OT.no, (OT.f 5 1)] 0)]), (92, [(Sig.mk 1 [] [(OT.g 90 [(AT.a (AV.ptr 0 0 0 0)), (AT.a (AV.ofl 1 1))]), (OT.f 5 1)] 0), (Sig.mk 2 [] [(OT.g 90 [(AT.a (AV.ptr 0 0 0 0)), (AT.a (AV.ofl 1 2))]), OT.no, (OT.f 5 1)] 0)])])) (lv := prU_datum_lv) (own := (some 2)) (F := Tryz.f58) (by kernel_rfl) (by kernel_rfl) (by first | decide | simp) (fun _ _ h => h) (by kernel_rfl) H
end Go.Proofs.YtejefchehdifhaaGreatDoor.Ev
end
section
set_option linter.unusedVariables false
set_option linter.unusedSimpArgs false
namespace Go.Proofs.YtejefchehdifhaaGreatDoor.Ev
open Go
abbrev p1 : TV := .one (.ptr 0 0 0 90)
theorem deR_utfB {c : Int} (hc : scalB c = true) : deR (utfB c) = c := by
  have h := ch1_utfB hc []
  rw [List.append_nil] at h
  rcases de_ch1 (utfB_bytes hc) (utfB_ne c) with ⟨e1, _⟩ | ⟨e1, _⟩
  · rw [h] at e1
    have h2 := (Prod.mk.inj e1).2
    have h3 := utfB_ne c
    exact absurd (List.length_eq_zero_iff.1 (by omega)) h3
  · rw [h] at e1
    exact (Prod.mk.inj e1).1.symm
theorem deR_scal {c : Int} {l : List Int} (hc : scalB c = true) (e : l = utfB c) : scalB (deR l) = true := by rw [e, deR_utfB hc]; exact hc
mutual
theorem txt_good : ∀ (x : Dt), x.ok → x.fit → Bytes x.txt ∧ x.txt.length + 4 ≤ 90 * FV.bulkL x.row
  | .mk k t n l ds a, hok, hf => by
    unfold Dt.ok at hok
    unfold Dt.fit at hf
    obtain ⟨hk, ht, hu, hl, hdl, hds, ha⟩ := hok
    obtain ⟨f1, f6, f7, f4, ff⟩ := hf
    have hb := bs_bytes t
    have hsz := size_bs t
    obtain ⟨t1, t2⟩ := txts_good ds (decide (k = 2)) true hds ff
    have hbl : l.length ≤ FV.bulkE (ints .u32 l) := by
      clear hl hu f7
      induction l with
      | nil => simp
      | cons x l ih => simp only [ints, List.map_cons, FV.bulkE, FV.bulkL, FV.bulk, List.length_cons]; simp only [ints] at ih; omega
    unfold Dt.txt
    simp only [Dt.row, FV.bulkL, FV.bulk]
    refine ⟨?_, ?_⟩
    · repeat' split
      · exact hb
      · exact (quoV_bytes hb).1
      · rename_i c6
        obtain ⟨c, hc, e⟩ := f6 c6
        refine Bytes.append (by intro x hx; simp at hx; omega) (nameL_bytes (deR_scal hc e)).1
      · exact numT_bytes n l
      · intro x hx; simp at hx; omega
      · intro x hx; simp at hx; omega
      · intro x hx; simp at hx; omega
      · exact Bytes.append (Bytes.append (by intro x hx; simp at hx; omega) hb) (by intro x hx; simp at hx; omega)
      · exact Bytes.append (by intro x hx; simp at hx; omega) t1
      · exact Bytes.append (by intro x hx; simp at hx; omega) t1
    · repeat' split
      · omega
      · have := (quoV_bytes hb).2; omega
      · rename_i c6
        obtain ⟨c, hc, e⟩ := f6 c6
        have := (nameL_bytes (deR_scal hc e)).2
        rw [List.length_append]
        simp only [List.length_cons, List.length_nil]; omega
      · rename_i c7
        obtain ⟨n1, n2⟩ := numT_len n l hu (f7 c7)
        omega
      · simp only [List.length_cons, List.length_nil]; omega
      · simp only [List.length_cons, List.length_nil]; omega
      · simp only [List.length_cons, List.length_nil]; omega
      · simp only [List.length_append, List.length_cons, List.length_nil]; omega
      · simp only [List.length_append, List.length_cons, List.length_nil]; omega
      · simp only [List.length_append, List.length_cons, List.length_nil]; omega
theorem txts_good : ∀ (xs : List Dt) (dot first : Bool), Dt.oks xs → Dt.fits xs → Bytes (Dt.txts dot first xs) ∧ (Dt.txts dot first xs).length ≤ 90 * FV.bulkE (Dt.rows xs) + 1
  | [], dot, first, _, _ => by
    unfold Dt.txts
    exact ⟨by intro x hx; simp at hx; omega, by simp⟩
  | x :: xs, dot, first, hok, hf => by
    unfold Dt.oks at hok
    unfold Dt.fits at hf
    obtain ⟨a1, a2⟩ := txt_good x hok.1 hf.1
    obtain ⟨b1, b2⟩ := txts_good xs dot false hok.2 hf.2
    unfold Dt.txts
    simp only [Dt.rows, FV.bulkE]
    refine ⟨?_, ?_⟩
    · refine Bytes.append ?_ (Bytes.append ?_ (Bytes.append a1 b1))
      · split
        · exact Bytes.nil
        · intro x hx; simp at hx; omega
      · split
        · intro x hx; simp at hx; omega
        · exact Bytes.nil
    · have e1 : (if first = true then ([] : List Int) else [32]).length ≤ 1 := by split <;> simp
      have e2 : (if dot = true ∧ xs = [] then ([46, 32] : List Int) else []).length ≤ 2 := by split <;> simp
      simp only [List.length_append]
      omega
end
theorem txts_cons (dot first : Bool) (x : Dt) (xs : List Dt) : Dt.txts dot first (x :: xs) = (if first = true then [] else [32]) ++ ((if dot = true ∧ xs = [] then [46, 32] else []) ++ (x.txt ++ Dt.txts dot false xs)) := by
  conv => lhs; unfold Dt.txts
theorem wbU (c : Int) (l : List Int) (hl : l.length ≤ 99000000) : Fn Tryz.prog 63 [p1, fzI .u8 c] (pU l) (.one (.fz (.ifc false))) (pV (l ++ [c])) := FnC.ptr1 _ (writeByteUP_ok c l (by omega))
theorem wbF (c : Int) : Fn Tryz.prog 63 [p1, fzI .u8 c] pF (.one (.fz (.ifc false))) (pU [c]) := FnC.ptr1 _ (writeByteFP_ok c)
theorem wsU (X l : List Int) (hX : Bytes X) (hx : X.length ≤ 99000000) (hl : l.length ≤ 99000000) : Fn Tryz.prog 65 [p1, .one (.fz (.str (bytesOf X)))] (pU l) (wsR X.length) (pV (l ++ X)) := by
  have := writeStringUP_ok (bytesOf X) l (by rw [bs_of hX]; omega) (by omega)
  rw [bs_of hX] at this
  exact FnC.ptr1 _ this
theorem wsF (X : List Int) (hX : Bytes X) (hx : X.length ≤ 99000000) : Fn Tryz.prog 65 [p1, .one (.fz (.str (bytesOf X)))] pF (wsR X.length) (pU X) := by
  have := writeStringFP_ok (bytesOf X) (by rw [bs_of hX]; omega)
  rw [bs_of hX] at this
  exact FnC.ptr1 _ this
def DatU (x : Dt) : Prop := ∀ out : List Int, out.length + x.txt.length ≤ 98000000 → Fn Tryz.prog 58 [p1, fzD x] (pU out) (.tup []) (pV (out ++ x.txt))
theorem prU_loop (xs : List Dt) (dot : Bool) (R : TV → List Ob → Prop) (hxl : xs.length ≤ 1048576) (hp : ∀ x ∈ xs, DatU x) : ∀ (d j : Nat) (out : List Int), j + d = xs.length →
    out.length + (Dt.txts dot (decide (j = 0)) (xs.drop j)).length ≤ 98000000 → R (.tup []) (pV (out ++ Dt.txts dot (decide (j = 0)) (xs.drop j))) → prU_list_L0 R (Dt.rows xs) dot j (ints .u8 out) := by
  intro d
  induction d with
  | zero =>
    intro j out hj ho hR
    refine prU_list_l0 ?_
    unfold prU_list_R0
    rw [rows_len]
    rw [List.drop_eq_nil_of_le (by omega)] at ho hR
    unfold Dt.txts at ho hR
    refine ⟨fun h => ?_, fun _ => ⟨_, wbU 41 out (by omega), hR⟩⟩
    have := of_decide_eq_true h
    omega
  | succ d ih =>
    intro j out hj ho hR
    refine prU_list_l0 ?_
    unfold prU_list_R0
    rw [rows_len]
    have hlt : j < xs.length := by omega
    rw [List.drop_eq_getElem_cons hlt] at ho hR
    have hg : (Dt.rows xs)[Int.toNat (j : Int)]? = some xs[j].row := by rw [rows_get, Int.toNat_natCast, List.getElem?_eq_getElem hlt]; rfl
    have hpx := hp xs[j] (List.getElem_mem _)
    have hE : ∀ E : List Int, Dt.txts dot (decide (j = 0)) (xs[j] :: xs.drop (j + 1)) = E ++ (xs[j].txt ++ Dt.txts dot false (xs.drop (j + 1))) →
        ∃ es : List (List FV), (Fn Tryz.prog 58 [p1, fzD xs[j]] (pU (out ++ E)) (.tup []) [.g 90 [.ptr 0 0 0 0, .ofl 1 2], .no, .f 5 1 es]) ∧ prU_list_L0 R (Dt.rows xs) dot (IntKind.wrap .i64 ((j : Int) + 1)) es := fun E e => by
      rw [e] at ho hR
      simp only [List.length_append] at ho
      refine ⟨_, hpx (out ++ E) (by rw [List.length_append]; omega), ?_⟩
      rw [w64 (by omega) (by omega)]
      refine ih (j + 1) (out ++ E ++ xs[j].txt) (by omega) ?_ ?_
      · rw [show decide (j + 1 = 0) = false from rfl]
        simp only [List.length_append]; omega
      · rw [show decide (j + 1 = 0) = false from rfl]
        simpa [List.append_assoc] using hR
    have hlast : xs.drop (j + 1) = [] ↔ j + 1 = xs.length := by
      rw [List.drop_eq_nil_iff]; omega
    have e46 : ByteArray.mk #[46, 32] = bytesOf [46, 32] := by decide +kernel
    have b46 : Bytes [46, 32] := by intro x hx; simp at hx; omega
    generalize hx : xs[j] = x at *
    obtain ⟨k, t, n, l, ds, a⟩ := x
    rw [e46, w64 (n := (xs.length : Int) - 1) (by omega) (by omega)]
    refine ⟨fun _ => ⟨by omega, k, t, n, ints .u32 l, Dt.rows ds, a, hg, fun h0 => ?_, fun h0 => ?_⟩, fun h => absurd hlt (by have := of_decide_eq_false h; omega)⟩
    · have j0 : ¬ j = 0 := by have := of_decide_eq_true h0; omega
      refine ⟨_, wbU 32 out (by omega), fun hd => ⟨fun hl => ⟨_, _, wsU [46, 32] (out ++ [32]) b46 (by simp) (by simp; omega), ?_⟩, fun hl => ?_⟩, fun hd => ?_⟩
      · have e := hE ([32] ++ [46, 32]) (by rw [txts_cons, if_neg (by simp [j0]), if_pos ⟨hd, hlast.2 (by simp at hl; omega)⟩]; simp)
        rw [← List.append_assoc] at e
        exact e
      · exact hE [32] (by rw [txts_cons, if_neg (by simp [j0]), if_neg (fun c => by have := hlast.1 c.2; simp at hl; omega)]; simp)
      · exact hE [32] (by rw [txts_cons, if_neg (by simp [j0]), if_neg (fun c => by rw [hd] at c; exact absurd c.1 (by simp))]; simp)
    · have j0 : j = 0 := by have := of_decide_eq_false h0; omega
      refine ⟨fun hd => ⟨fun hl => ⟨_, _, wsU [46, 32] out b46 (by simp) (by omega), ?_⟩, fun hl => ?_⟩, fun hd => ?_⟩
      · exact hE [46, 32] (by rw [txts_cons, if_pos (by simp [j0]), if_pos ⟨hd, hlast.2 (by simp at hl; omega)⟩]; simp)
      · have e := hE [] (by rw [txts_cons, if_pos (by simp [j0]), if_neg (fun c => by have := hlast.1 c.2; simp at hl; omega)]; simp)
        rw [List.append_nil] at e
        exact e
      · have e := hE [] (by rw [txts_cons, if_pos (by simp [j0]), if_neg (fun c => by rw [hd] at c; exact absurd c.1 (by simp))]; simp)
        rw [List.append_nil] at e
        exact e
theorem prF_loop (xs : List Dt) (dot : Bool) (R : TV → List Ob → Prop) (hxl : xs.length ≤ 1048576) (hp : ∀ x ∈ xs, DatU x) : ∀ (d j : Nat) (out : List Int), j + d = xs.length →
    out.length + (Dt.txts dot (decide (j = 0)) (xs.drop j)).length ≤ 98000000 → R (.tup []) (pU (out ++ Dt.txts dot (decide (j = 0)) (xs.drop j))) → prF_list_L0 R (Dt.rows xs) dot j (ints .u8 out) := by
  intro d
  induction d with
  | zero =>
    intro j out hj ho hR
    refine prF_list_l0 ?_
    unfold prF_list_R0
    rw [rows_len]
    rw [List.drop_eq_nil_of_le (by omega)] at ho hR
    unfold Dt.txts at ho hR
    refine ⟨fun h => ?_, fun _ => ⟨_, wbU 41 out (by omega), hR⟩⟩
    have := of_decide_eq_true h
    omega
  | succ d ih =>
    intro j out hj ho hR
    refine prF_list_l0 ?_
    unfold prF_list_R0
    rw [rows_len]
    have hlt : j < xs.length := by omega
    rw [List.drop_eq_getElem_cons hlt] at ho hR
    have hg : (Dt.rows xs)[Int.toNat (j : Int)]? = some xs[j].row := by rw [rows_get, Int.toNat_natCast, List.getElem?_eq_getElem hlt]; rfl
    have hpx := hp xs[j] (List.getElem_mem _)
    have hE : ∀ E : List Int, Dt.txts dot (decide (j = 0)) (xs[j] :: xs.drop (j + 1)) = E ++ (xs[j].txt ++ Dt.txts dot false (xs.drop (j + 1))) →
        ∃ es : List (List FV), (Fn Tryz.prog 58 [p1, fzD xs[j]] (pU (out ++ E)) (.tup []) [.g 90 [.ptr 0 0 0 0, .ofl 1 2], .no, .f 5 1 es]) ∧ prF_list_L0 R (Dt.rows xs) dot (IntKind.wrap .i64 ((j : Int) + 1)) es := fun E e => by
      rw [e] at ho hR
      simp only [List.length_append] at ho
      refine ⟨_, hpx (out ++ E) (by rw [List.length_append]; omega), ?_⟩
      rw [w64 (by omega) (by omega)]
      refine ih (j + 1) (out ++ E ++ xs[j].txt) (by omega) ?_ ?_
      · rw [show decide (j + 1 = 0) = false from rfl]
        simp only [List.length_append]; omega
      · rw [show decide (j + 1 = 0) = false from rfl]
        simpa [List.append_assoc] using hR
    have hlast : xs.drop (j + 1) = [] ↔ j + 1 = xs.length := by
      rw [List.drop_eq_nil_iff]; omega
    have e46 : ByteArray.mk #[46, 32] = bytesOf [46, 32] := by decide +kernel
    have b46 : Bytes [46, 32] := by intro x hx; simp at hx; omega
    generalize hx : xs[j] = x at *
    obtain ⟨k, t, n, l, ds, a⟩ := x
    rw [e46, w64 (n := (xs.length : Int) - 1) (by omega) (by omega)]
    refine ⟨fun _ => ⟨by omega, k, t, n, ints .u32 l, Dt.rows ds, a, hg, fun h0 => ?_, fun h0 => ?_⟩, fun h => absurd hlt (by have := of_decide_eq_false h; omega)⟩
    · have j0 : ¬ j = 0 := by have := of_decide_eq_true h0; omega
      refine ⟨_, wbU 32 out (by omega), fun hd => ⟨fun hl => ⟨_, _, wsU [46, 32] (out ++ [32]) b46 (by simp) (by simp; omega), ?_⟩, fun hl => ?_⟩, fun hd => ?_⟩
      · have e := hE ([32] ++ [46, 32]) (by rw [txts_cons, if_neg (by simp [j0]), if_pos ⟨hd, hlast.2 (by simp at hl; omega)⟩]; simp)
        rw [← List.append_assoc] at e
        exact e
      · exact hE [32] (by rw [txts_cons, if_neg (by simp [j0]), if_neg (fun c => by have := hlast.1 c.2; simp at hl; omega)]; simp)
      · exact hE [32] (by rw [txts_cons, if_neg (by simp [j0]), if_neg (fun c => by rw [hd] at c; exact absurd c.1 (by simp))]; simp)
    · have j0 : j = 0 := by have := of_decide_eq_false h0; omega
      refine ⟨fun hd => ⟨fun hl => ⟨_, _, wsU [46, 32] out b46 (by simp) (by omega), ?_⟩, fun hl => ?_⟩, fun hd => ?_⟩
      · exact hE [46, 32] (by rw [txts_cons, if_pos (by simp [j0]), if_pos ⟨hd, hlast.2 (by simp at hl; omega)⟩]; simp)
      · have e := hE [] (by rw [txts_cons, if_pos (by simp [j0]), if_neg (fun c => by have := hlast.1 c.2; simp at hl; omega)]; simp)
        rw [List.append_nil] at e
        exact e
      · have e := hE [] (by rw [txts_cons, if_pos (by simp [j0]), if_neg (fun c => by rw [hd] at c; exact absurd c.1 (by simp))]; simp)
        rw [List.append_nil] at e
        exact e
theorem prU_list_ok (xs : List Dt) (dot : Bool) (out : List Int) (hxl : xs.length ≤ 1048576) (hp : ∀ x ∈ xs, DatU x) (ho : out.length + 1 + (Dt.txts dot true xs).length ≤ 98000000) :
    Fn Tryz.prog 92 [p1, .one (.fz (.sl 6 (Dt.rows xs))), fzB dot] (pU out) (.tup []) (pV (out ++ (40 :: Dt.txts dot true xs))) := by
  refine prU_list_fn _ _ _ ?_
  unfold prU_list_H
  refine ⟨_, wbU 40 out (by omega), ?_⟩
  exact prU_loop xs dot _ hxl hp xs.length 0 (out ++ [40]) (by omega) (by simp; omega) ⟨rfl, by simpa using Wk.refl _⟩
theorem prF_list_ok (xs : List Dt) (dot : Bool) (hxl : xs.length ≤ 1048576) (hp : ∀ x ∈ xs, DatU x) (ho : 1 + (Dt.txts dot true xs).length ≤ 98000000) :
    Fn Tryz.prog 92 [p1, .one (.fz (.sl 6 (Dt.rows xs))), fzB dot] pF (.tup []) (pU (40 :: Dt.txts dot true xs)) := by
  refine prF_list_fn _ _ ?_
  unfold prF_list_H
  refine ⟨_, wbF 40, ?_⟩
  exact prF_loop xs dot _ hxl hp xs.length 0 [40] (by omega) (by simp; omega) ⟨rfl, by simpa using Wk.refl _⟩
end Go.Proofs.YtejefchehdifhaaGreatDoor.Ev
end
