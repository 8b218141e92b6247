/-
 Part of a claim: definitions and lemmas that its theorem leans on, packed by wip/tools/pack.py.
-/
import Derived.Test.YtljpbicmlcjpcaaGreatDoorZM5
import Derived.Test.YtljpbicmlcjpcaaGreatDoorTie
import Derived.Test.YtljpbicmlcjpcaaGreatDoorCards
import Derived.WalkKit
import Derived.ProofKit
import Derived.ShutString
import Derived.Lay
import Derived.Stop.Joined
import Derived.SevenTiedAt
set_option linter.unusedVariables false
set_option linter.unusedSimpArgs false
section
set_option linter.unusedVariables false
set_option maxRecDepth 100000
namespace Go.Proofs.YtljpbicmlcjpcaaGreatDoor.Ev
open Go
section
def ref17_Sym_lv : List Nat → Keep := lvOf []
def ref17_Sym_H (R : TV → List Ob → Prop) (s : ByteArray) (mark : Int) : Prop :=
 ((((decide ((0 : Int) < mark)) = true) → (R (TV.agg [(AV.fz (FV.int .i64 4)), (AV.fz (FV.str s)), (AV.fz (FV.bool false)), (AV.fz (FV.sl 1 ([] : LL))), (AV.fz (FV.sl 8 ([] : LL))), (AV.fz (FV.int .i64 0)), (AV.fz (FV.sl 1 [[(FV.int .i64 mark)]])), (AV.fz (FV.sl 1 [[(FV.int .i64 0)]]))]) [])) ∧ (((decide ((0 : Int) < mark)) = false) → (R (TV.agg [(AV.fz (FV.int .i64 4)), (AV.fz (FV.str s)), (AV.fz (FV.bool false)), (AV.fz (FV.sl 1 ([] : LL))), (AV.fz (FV.sl 8 ([] : LL))), (AV.fz (FV.int .i64 0)), (AV.fz (FV.sl 1 ([] : LL))), (AV.fz (FV.sl 1 ([] : LL)))]) [])))
theorem ref17_Sym_fn (s : ByteArray) (mark : Int) {r : TV} {h : List Ob} (H : ref17_Sym_H (fun r' h' => r' = r ∧ h' = h) s mark) : Fn Tryz.prog 88 [(TV.one (AV.fz (FV.str s))), (TV.one (AV.fz (FV.int .i64 mark)))] [] r h :=
 Fn.by_tr (M := (modeOf [] [])) (lv := ref17_Sym_lv) (own := none) (F := Tryz.f88) (by kernel_rfl) (by kernel_rfl) (by first | decide | simp) (fun _ _ h => h) (by kernel_rfl) H
def ref17_List_lv : List Nat → Keep := lvOf []
def ref17_List_H (R : TV → List Ob → Prop) (l : List (List FV)) : Prop :=
 (R (TV.agg [(AV.fz (FV.int .i64 1)), (AV.fz (FV.str (ByteArray.mk #[]))), (AV.fz (FV.bool false)), (AV.fz (FV.sl 1 ([] : LL))), (AV.fz (FV.sl 8 l)), (AV.fz (FV.int .i64 0)), (AV.fz (FV.sl 1 ([] : LL))), (AV.fz (FV.sl 1 ([] : LL)))]) [])
theorem ref17_List_fn (l : LL) {r : TV} {h : List Ob} (H : ref17_List_H (fun r' h' => r' = r ∧ h' = h) l) : Fn Tryz.prog 53 [(TV.one (AV.fz (FV.sl 8 l)))] [] r h :=
 Fn.by_tr (M := (modeOf [] [])) (lv := ref17_List_lv) (own := none) (F := Tryz.f53) (by kernel_rfl) (by kernel_rfl) (by first | decide | simp) (fun _ _ h => h) (by kernel_rfl) H
def rOpenO_lv : List Nat → Keep := lvOf [([0, 1, 0, 1, 1, 1], ⟨30, 0, [], false, false⟩)]
def rOpenO_S0 (x0 : Int) (x1 : ByteArray) (x2 : Bool) (x3 : LL) (x4 : LL) (x5 : Int) (x6 : LL) (x7 : LL) (i : Int) (o : LL) : St := (St.mk [TV.und, (TV.one (AV.ptr 0 0 0 0)), (TV.one (AV.ptr 1 0 0 0)), (TV.one (AV.ptr 2 0 0 0)), (TV.one (AV.fz (FV.int .i64 i))), TV.und, TV.und, TV.und, TV.und, TV.und, TV.und, TV.und, TV.und, TV.und, TV.und, TV.und, TV.und, TV.und, TV.und, TV.und, TV.und, TV.und, TV.und, TV.und, TV.und, TV.und, TV.und, TV.und, TV.und, TV.und, TV.und, TV.und, TV.und, TV.und, TV.und, TV.und, TV.und, TV.und, TV.und, TV.und, TV.und, TV.und, TV.und, TV.und, TV.und, TV.und, TV.und, TV.und, TV.und, TV.und, TV.und, TV.und, TV.und, TV.und, TV.und, TV.und, TV.und, TV.und, TV.und, TV.und, TV.und, TV.und, TV.und] [(Ob.g 28 [(AV.fz (FV.int .i64 x0)), (AV.fz (FV.str x1)), (AV.fz (FV.bool x2)), (AV.fz (FV.sl 1 x3)), (AV.fz (FV.sl 8 x4)), (AV.fz (FV.int .i64 x5)), (AV.fz (FV.sl 1 x6)), (AV.fz (FV.sl 1 x7))]), (Ob.g 28 [(AV.fz (FV.int .i64 0)), (AV.fz (FV.str (ByteArray.mk #[]))), (AV.fz (FV.bool false)), (AV.ofl 1 3), (AV.ofl 8 4), (AV.fz (FV.int .i64 0)), (AV.ofl 1 5), (AV.ofl 1 6)]), (Ob.g 28 [(AV.fz (FV.int .i64 x0)), (AV.fz (FV.str x1)), (AV.fz (FV.bool x2)), (AV.fz (FV.sl 1 x3)), (AV.ofl 8 7), (AV.fz (FV.int .i64 x5)), (AV.ofl 1 8), (AV.ofl 1 9)]), (Ob.f 0 1 ([] : LL)), (Ob.f 0 8 ([] : LL)), (Ob.f 0 1 ([] : LL)), (Ob.f 0 1 ([] : LL)), (Ob.f 0 8 o), (Ob.f 0 1 ([] : LL)), (Ob.f 0 1 ([] : LL))])
def rOpenO_L0 (R : TV → List Ob → Prop) (x0 : Int) (x1 : ByteArray) (x2 : Bool) (x3 : LL) (x4 : LL) (x5 : Int) (x6 : LL) (x7 : LL) (i : Int) (o : LL) : Prop := LoopAt Tryz.prog (modeOf [] []) rOpenO_lv Tryz.f25 (some 0) R [1, 1, 1, 0, 1, 0] (rOpenO_S0 x0 x1 x2 x3 x4 x5 x6 x7 i o)
def rOpenO_R0 (R : TV → List Ob → Prop) (x0 : Int) (x1 : ByteArray) (x2 : Bool) (x3 : LL) (x4 : LL) (x5 : Int) (x6 : LL) (x7 : LL) (i : Int) (o : LL) : Prop :=
 ((((decide (i < (((List.length x4) : Nat) : Int))) = true) → (((0 : Int) ≤ i) ∧ (∃ n6 : Int, (∃ s2 : ByteArray, (∃ b2 : Bool, (∃ es12 : LL, (∃ es13 : LL, (∃ n7 : Int, (∃ es14 : LL, (∃ es15 : LL, (((x4)[(Int.toNat i)]? = (some [(FV.int .i64 n6), (FV.str s2), (FV.bool b2), (FV.sl 1 es12), (FV.sl 8 es13), (FV.int .i64 n7), (FV.sl 1 es14), (FV.sl 1 es15)])) ∧ (∃ es16 : LL, (∃ es17 : LL, (∃ n8 : Int, ((Fn Tryz.prog 63 [(TV.one (AV.fz (FV.sl 1 x6))), (TV.one (AV.fz (FV.sl 1 x7))), (TV.one (AV.fz (FV.sl 1 es14))), (TV.one (AV.fz (FV.sl 1 es15)))] [] (TV.tup [(false, [(AV.fz (FV.sl 1 es16))]), (false, [(AV.fz (FV.sl 1 es17))]), (false, [(AV.fz (FV.int .i64 n8))])]) []) ∧ (((((List.length o) + (List.length [[(FV.int .i64 n6), (FV.str s2), (FV.bool b2), (FV.sl 1 es12), (FV.sl 8 es13), (FV.int .i64 n7), (FV.sl 1 es16), (FV.sl 1 es17)]])) * 136) ≤ 220000000000000) ∧ (rOpenO_L0 R x0 x1 x2 x3 x4 x5 x6 x7 (IntKind.wrap .i64 (i + 1)) (o ++ [[(FV.int .i64 n6), (FV.str s2), (FV.bool b2), (FV.sl 1 es12), (FV.sl 8 es13), (FV.int .i64 n7), (FV.sl 1 es16), (FV.sl 1 es17)]])))))))))))))))))) ∧ (((decide (i < (((List.length x4) : Nat) : Int))) = false) → (R (TV.agg [(AV.fz (FV.int .i64 x0)), (AV.fz (FV.str x1)), (AV.fz (FV.bool x2)), (AV.fz (FV.sl 1 x3)), (AV.ofl 8 0), (AV.fz (FV.int .i64 x5)), (AV.ofl 1 1), (AV.ofl 1 2)]) [(Ob.f 0 8 o), (Ob.f 0 1 ([] : LL)), (Ob.f 0 1 ([] : LL))])))
theorem rOpenO_l0 {R : TV → List Ob → Prop} {x0 : Int} {x1 : ByteArray} {x2 : Bool} {x3 : LL} {x4 : LL} {x5 : Int} {x6 : LL} {x7 : LL} {i : Int} {o : LL} (h : rOpenO_R0 R x0 x1 x2 x3 x4 x5 x6 x7 i o) : rOpenO_L0 R x0 x1 x2 x3 x4 x5 x6 x7 i o :=
 LoopAt.by_tr (by kernel_rfl) (by kernel_rfl) h
def rOpenO_H (R : TV → List Ob → Prop) (x0 : Int) (x1 : ByteArray) (x2 : Bool) (x3 : LL) (x4 : LL) (x5 : Int) (x6 : LL) (x7 : LL) : Prop :=
 ((((decide (x0 < 1)) = true) → (R (TV.agg [(AV.fz (FV.int .i64 x0)), (AV.fz (FV.str x1)), (AV.fz (FV.bool x2)), (AV.fz (FV.sl 1 x3)), (AV.fz (FV.sl 8 x4)), (AV.fz (FV.int .i64 x5)), (AV.fz (FV.sl 1 x6)), (AV.fz (FV.sl 1 x7))]) [])) ∧ (((decide (x0 < 1)) = false) → ((((decide ((3 : Int) < x0)) = true) → (R (TV.agg [(AV.fz (FV.int .i64 x0)), (AV.fz (FV.str x1)), (AV.fz (FV.bool x2)), (AV.fz (FV.sl 1 x3)), (AV.fz (FV.sl 8 x4)), (AV.fz (FV.int .i64 x5)), (AV.fz (FV.sl 1 x6)), (AV.fz (FV.sl 1 x7))]) [])) ∧ (((decide ((3 : Int) < x0)) = false) → (rOpenO_L0 R x0 x1 x2 x3 x4 x5 x6 x7 0 ([] : LL))))))
theorem rOpenO_fk (nk : Nat) (x0 : Int) (x1 : ByteArray) (x2 : Bool) (x3 : LL) (x4 : LL) (x5 : Int) (x6 : LL) (x7 : LL) (hlk : List.length ([] : List Ob) ≤ nk) {r : TV} {h : List Ob} (H : rOpenO_H (fun r' h' => Cool nk r' h' r h) x0 x1 x2 x3 x4 x5 x6 x7) : Fn Tryz.prog 25 [(TV.agg [(AV.fz (FV.int .i64 x0)), (AV.fz (FV.str x1)), (AV.fz (FV.bool x2)), (AV.fz (FV.sl 1 x3)), (AV.fz (FV.sl 8 x4)), (AV.fz (FV.int .i64 x5)), (AV.fz (FV.sl 1 x6)), (AV.fz (FV.sl 1 x7))])] [] r h :=
 Fn.by_trK nk (M := (modeOf [] [])) (lv := rOpenO_lv) (own := (some 0)) (F := Tryz.f25) (by kernel_rfl) (by kernel_rfl) (by first | decide | simp) hlk (fun _ _ h => h) (by kernel_rfl) H
def ref17_RulesO_lv : List Nat → Keep := lvOf [([0, 1, 0, 1, 1, 1, 1, 1, 1, 1], ⟨466, 0, [], false, false⟩), ([0, 1, 0, 1, 1, 1, 1, 1, 1, 1, 1, 1], ⟨1618, 0, [], false, false⟩)]
def ref17_RulesO_S0 (mark : Int) (i : Int) (es : LL) (n6 : Int) (s3 : ByteArray) (b4 : Bool) (es13 : LL) (n7 : Int) (es14 : LL) (es15 : LL) (es12 : LL) : St := (St.mk [TV.und, (TV.one (AV.fz (FV.int .i64 mark))), TV.und, TV.und, (TV.one (AV.ptr 0 0 0 0)), TV.und, (TV.one (AV.ofl 8 1)), (TV.one (AV.ptr 2 0 0 0)), (TV.one (AV.fz (FV.int .i64 i))), TV.und, TV.und, TV.und, TV.und, TV.und, TV.und, TV.und, TV.und, TV.und, TV.und, TV.und, TV.und, TV.und, TV.und, TV.und, TV.und, TV.und, TV.und, TV.und, TV.und, TV.und, TV.und, TV.und, TV.und, TV.und, TV.und, TV.und, TV.und, TV.und, TV.und, TV.und, TV.und, TV.und, TV.und, TV.und, TV.und, TV.und, TV.und, TV.und, TV.und, TV.und, TV.und, TV.und, TV.und, TV.und, TV.und, TV.und, TV.und, TV.und, TV.und, TV.und, TV.und, TV.und, TV.und, TV.und, TV.und, TV.und, TV.und, TV.und, TV.und, TV.und, TV.und, TV.und, TV.und, TV.und, TV.und, TV.und, TV.und, TV.und, TV.und, TV.und, TV.und, TV.und, TV.und, TV.und, TV.und, TV.und, TV.und, TV.und, TV.und, TV.und, TV.und, TV.und, TV.und, TV.und, TV.und, TV.und, TV.und, TV.und, TV.und, TV.und, TV.und, TV.und, TV.und, TV.und, TV.und, TV.und, TV.und, TV.und, TV.und, TV.und, TV.und, TV.und, TV.und, TV.und, TV.und, TV.und, TV.und, TV.und, TV.und, TV.und, TV.und, TV.und, TV.und, TV.und, TV.und, TV.und, TV.und, TV.und, TV.und, TV.und, TV.und, TV.und, TV.und, TV.und, TV.und, TV.und, TV.und, TV.und, TV.und, TV.und, TV.und, TV.und, TV.und, TV.und, TV.und, TV.und, TV.und, TV.und, TV.und, TV.und, TV.und] [(Ob.g 28 [(AV.fz (FV.int .i64 0)), (AV.fz (FV.str (ByteArray.mk #[]))), (AV.fz (FV.bool false)), (AV.ofl 1 3), (AV.ofl 8 4), (AV.fz (FV.int .i64 0)), (AV.ofl 1 5), (AV.ofl 1 6)]), (Ob.f 0 8 es), (Ob.g 28 [(AV.fz (FV.int .i64 n6)), (AV.fz (FV.str s3)), (AV.fz (FV.bool b4)), (AV.fz (FV.sl 1 es13)), (AV.ofl 8 7), (AV.fz (FV.int .i64 n7)), (AV.fz (FV.sl 1 es14)), (AV.fz (FV.sl 1 es15))]), (Ob.f 0 1 ([] : LL)), (Ob.f 0 8 ([] : LL)), (Ob.f 0 1 ([] : LL)), (Ob.f 0 1 ([] : LL)), (Ob.f 0 8 es12)])
def ref17_RulesO_L0 (R : TV → List Ob → Prop) (mark : Int) (i : Int) (es : LL) (n6 : Int) (s3 : ByteArray) (b4 : Bool) (es13 : LL) (n7 : Int) (es14 : LL) (es15 : LL) (es12 : LL) : Prop := LoopAt Tryz.prog (modeOf [] [(25, [(Sig.mk 0 [(true, [(AT.k (CK.int .i64)), (AT.k CK.str), (AT.k CK.bool), (AT.k (CK.sl 1)), (AT.a (AV.ofl 8 0)), (AT.k (CK.int .i64)), (AT.k (CK.sl 1)), (AT.k (CK.sl 1))])] [(OT.f 0 8)] 0)])]) ref17_RulesO_lv Tryz.f52 (some 0) R [1, 1, 1, 1, 1, 1, 1, 0, 1, 0] (ref17_RulesO_S0 mark i es n6 s3 b4 es13 n7 es14 es15 es12)
def ref17_RulesO_S1 (mark : Int) (i1 : Int) (es : LL) (o : LL) : St := (St.mk [TV.und, (TV.one (AV.fz (FV.int .i64 mark))), TV.und, TV.und, (TV.one (AV.ptr 0 0 0 0)), TV.und, (TV.one (AV.ofl 8 1)), TV.und, TV.und, (TV.one (AV.ofl 8 2)), (TV.one (AV.fz (FV.int .i64 i1))), TV.und, TV.und, TV.und, TV.und, TV.und, TV.und, TV.und, TV.und, TV.und, TV.und, TV.und, TV.und, TV.und, TV.und, TV.und, TV.und, TV.und, TV.und, TV.und, TV.und, TV.und, TV.und, TV.und, TV.und, TV.und, TV.und, TV.und, TV.und, TV.und, TV.und, TV.und, TV.und, TV.und, TV.und, TV.und, TV.und, TV.und, TV.und, TV.und, TV.und, TV.und, TV.und, TV.und, TV.und, TV.und, TV.und, TV.und, TV.und, TV.und, TV.und, TV.und, TV.und, TV.und, TV.und, TV.und, TV.und, TV.und, TV.und, TV.und, TV.und, TV.und, TV.und, TV.und, TV.und, TV.und, TV.und, TV.und, TV.und, TV.und, TV.und, TV.und, TV.und, TV.und, TV.und, TV.und, TV.und, TV.und, TV.und, TV.und, TV.und, TV.und, TV.und, TV.und, TV.und, TV.und, TV.und, TV.und, TV.und, TV.und, TV.und, TV.und, TV.und, TV.und, TV.und, TV.und, TV.und, TV.und, TV.und, TV.und, TV.und, TV.und, TV.und, TV.und, TV.und, TV.und, TV.und, TV.und, TV.und, TV.und, TV.und, TV.und, TV.und, TV.und, TV.und, TV.und, TV.und, TV.und, TV.und, TV.und, TV.und, TV.und, TV.und, TV.und, TV.und, TV.und, TV.und, TV.und, TV.und, TV.und, TV.und, TV.und, TV.und, TV.und, TV.und, TV.und, TV.und, TV.und, TV.und, TV.und, TV.und] [(Ob.g 28 [(AV.fz (FV.int .i64 0)), (AV.fz (FV.str (ByteArray.mk #[]))), (AV.fz (FV.bool false)), (AV.ofl 1 3), (AV.ofl 8 4), (AV.fz (FV.int .i64 0)), (AV.ofl 1 5), (AV.ofl 1 6)]), (Ob.f 0 8 es), (Ob.f 28 8 o), (Ob.f 0 1 ([] : LL)), (Ob.f 0 8 ([] : LL)), (Ob.f 0 1 ([] : LL)), (Ob.f 0 1 ([] : LL))])
def ref17_RulesO_L1 (R : TV → List Ob → Prop) (mark : Int) (i1 : Int) (es : LL) (o : LL) : Prop := LoopAt Tryz.prog (modeOf [] [(25, [(Sig.mk 0 [(true, [(AT.k (CK.int .i64)), (AT.k CK.str), (AT.k CK.bool), (AT.k (CK.sl 1)), (AT.a (AV.ofl 8 0)), (AT.k (CK.int .i64)), (AT.k (CK.sl 1)), (AT.k (CK.sl 1))])] [(OT.f 0 8)] 0)])]) ref17_RulesO_lv Tryz.f52 (some 0) R [1, 1, 1, 1, 1, 1, 1, 1, 1, 0, 1, 0] (ref17_RulesO_S1 mark i1 es o)
def ref17_RulesO_R0 (R : TV → List Ob → Prop) (mark : Int) (i : Int) (es : LL) (n6 : Int) (s3 : ByteArray) (b4 : Bool) (es13 : LL) (n7 : Int) (es14 : LL) (es15 : LL) (es12 : LL) : Prop :=
 ((((decide (i < (((List.length es12) : Nat) : Int))) = true) → ((((0 : Int) ≤ i) ∧ (i < (((List.length es12) : Nat) : Int))) ∧ (∃ n182 : Int, (∃ s91 : ByteArray, (∃ b95 : Bool, (∃ es364 : LL, (∃ es365 : LL, (∃ n183 : Int, (∃ es366 : LL, (∃ es367 : LL, (((es12)[(Int.toNat i)]? = (some [(FV.int .i64 n182), (FV.str s91), (FV.bool b95), (FV.sl 1 es364), (FV.sl 8 es365), (FV.int .i64 n183), (FV.sl 1 es366), (FV.sl 1 es367)])) ∧ ((((n182 != 4) = true) → (R (TV.tup [(true, [(AV.fz (FV.int .i64 0)), (AV.fz (FV.str (ByteArray.mk #[]))), (AV.fz (FV.bool false)), (AV.ofl 1 0), (AV.ofl 8 1), (AV.fz (FV.int .i64 0)), (AV.ofl 1 2), (AV.ofl 1 3)]), (false, [(AV.fz (FV.int .i64 7))])]) [(Ob.f 0 1 ([] : LL)), (Ob.f 0 8 ([] : LL)), (Ob.f 0 1 ([] : LL)), (Ob.f 0 1 ([] : LL))])) ∧ (((n182 != 4) = false) → (ref17_RulesO_L0 R mark (IntKind.wrap .i64 (i + 1)) es n6 s3 b4 es13 n7 es14 es15 es12)))))))))))))) ∧ (((decide (i < (((List.length es12) : Nat) : Int))) = false) → (∃ n184 : Int, (∃ s92 : ByteArray, (∃ b96 : Bool, (∃ es368 : LL, (∃ es369 : LL, (∃ n185 : Int, (∃ es370 : LL, (∃ es371 : LL, ((Fn Tryz.prog 88 [(TV.one (AV.fz (FV.str (ByteArray.mk #[37, 115, 121, 110, 116, 97, 120, 45, 99, 97, 115, 101])))), (TV.one (AV.fz (FV.int .i64 mark)))] [] (TV.agg [(AV.fz (FV.int .i64 n184)), (AV.fz (FV.str s92)), (AV.fz (FV.bool b96)), (AV.fz (FV.sl 1 es368)), (AV.fz (FV.sl 8 es369)), (AV.fz (FV.int .i64 n185)), (AV.fz (FV.sl 1 es370)), (AV.fz (FV.sl 1 es371))]) []) ∧ (∃ n186 : Int, (∃ s93 : ByteArray, (∃ b97 : Bool, (∃ es372 : LL, (∃ es373 : LL, (∃ n187 : Int, (∃ es374 : LL, (∃ es375 : LL, ((Fn Tryz.prog 88 [(TV.one (AV.fz (FV.str (ByteArray.mk #[120])))), (TV.one (AV.fz (FV.int .i64 mark)))] [] (TV.agg [(AV.fz (FV.int .i64 n186)), (AV.fz (FV.str s93)), (AV.fz (FV.bool b97)), (AV.fz (FV.sl 1 es372)), (AV.fz (FV.sl 8 es373)), (AV.fz (FV.int .i64 n187)), (AV.fz (FV.sl 1 es374)), (AV.fz (FV.sl 1 es375))]) []) ∧ (ref17_RulesO_L1 R mark 2 es [[(FV.int .i64 n184), (FV.str s92), (FV.bool b96), (FV.sl 1 es368), (FV.sl 8 es369), (FV.int .i64 n185), (FV.sl 1 es370), (FV.sl 1 es371)], [(FV.int .i64 n186), (FV.str s93), (FV.bool b97), (FV.sl 1 es372), (FV.sl 8 es373), (FV.int .i64 n187), (FV.sl 1 es374), (FV.sl 1 es375)], [(FV.int .i64 n6), (FV.str s3), (FV.bool b4), (FV.sl 1 es13), (FV.sl 8 es12), (FV.int .i64 n7), (FV.sl 1 es14), (FV.sl 1 es15)]])))))))))))))))))))))
theorem ref17_RulesO_l0 {R : TV → List Ob → Prop} {mark : Int} {i : Int} {es : LL} {n6 : Int} {s3 : ByteArray} {b4 : Bool} {es13 : LL} {n7 : Int} {es14 : LL} {es15 : LL} {es12 : LL} (h : ref17_RulesO_R0 R mark i es n6 s3 b4 es13 n7 es14 es15 es12) : ref17_RulesO_L0 R mark i es n6 s3 b4 es13 n7 es14 es15 es12 :=
 LoopAt.by_tr (by kernel_rfl) (by kernel_rfl) h
def ref17_RulesO_R1 (R : TV → List Ob → Prop) (mark : Int) (i1 : Int) (es : List (List FV)) (o : List (List FV)) : Prop :=
 ((((decide (i1 < (((List.length es) : Nat) : Int))) = true) → ((((0 : Int) ≤ i1) ∧ (i1 < (((List.length es) : Nat) : Int))) ∧ (∃ n182 : Int, (∃ s91 : ByteArray, (∃ b95 : Bool, (∃ es364 : LL, (∃ es365 : LL, (∃ n183 : Int, (∃ es366 : LL, (∃ es367 : LL, (((es)[(Int.toNat i1)]? = (some [(FV.int .i64 n182), (FV.str s91), (FV.bool b95), (FV.sl 1 es364), (FV.sl 8 es365), (FV.int .i64 n183), (FV.sl 1 es366), (FV.sl 1 es367)])) ∧ ((((n182 != 1) = true) → (R (TV.tup [(true, [(AV.fz (FV.int .i64 0)), (AV.fz (FV.str (ByteArray.mk #[]))), (AV.fz (FV.bool false)), (AV.ofl 1 0), (AV.ofl 8 1), (AV.fz (FV.int .i64 0)), (AV.ofl 1 2), (AV.ofl 1 3)]), (false, [(AV.fz (FV.int .i64 7))])]) [(Ob.f 0 1 ([] : LL)), (Ob.f 0 8 ([] : LL)), (Ob.f 0 1 ([] : LL)), (Ob.f 0 1 ([] : LL))])) ∧ (((n182 != 1) = false) → ((((0 : Int) ≤ i1) ∧ (i1 < (((List.length es) : Nat) : Int))) ∧ (∃ n184 : Int, (∃ s92 : ByteArray, (∃ b96 : Bool, (∃ es368 : LL, (∃ es369 : LL, (∃ n185 : Int, (∃ es370 : LL, (∃ es371 : LL, (((es)[(Int.toNat i1)]? = (some [(FV.int .i64 n184), (FV.str s92), (FV.bool b96), (FV.sl 1 es368), (FV.sl 8 es369), (FV.int .i64 n185), (FV.sl 1 es370), (FV.sl 1 es371)])) ∧ (((((((List.length es369) : Nat) : Int) != 2) = true) → (R (TV.tup [(true, [(AV.fz (FV.int .i64 0)), (AV.fz (FV.str (ByteArray.mk #[]))), (AV.fz (FV.bool false)), (AV.ofl 1 0), (AV.ofl 8 1), (AV.fz (FV.int .i64 0)), (AV.ofl 1 2), (AV.ofl 1 3)]), (false, [(AV.fz (FV.int .i64 7))])]) [(Ob.f 0 1 ([] : LL)), (Ob.f 0 8 ([] : LL)), (Ob.f 0 1 ([] : LL)), (Ob.f 0 1 ([] : LL))])) ∧ ((((((List.length es369) : Nat) : Int) != 2) = false) → ((((0 : Int) ≤ i1) ∧ (i1 < (((List.length es) : Nat) : Int))) ∧ (∃ n186 : Int, (∃ s93 : ByteArray, (∃ b97 : Bool, (∃ es372 : LL, (∃ es373 : LL, (∃ n187 : Int, (∃ es374 : LL, (∃ es375 : LL, (((es)[(Int.toNat i1)]? = (some [(FV.int .i64 n186), (FV.str s93), (FV.bool b97), (FV.sl 1 es372), (FV.sl 8 es373), (FV.int .i64 n187), (FV.sl 1 es374), (FV.sl 1 es375)])) ∧ (∃ es376 : LL, (∃ n188 : Int, (∃ s94 : ByteArray, (∃ b98 : Bool, (∃ es377 : LL, (∃ n189 : Int, (∃ es378 : LL, (∃ es379 : LL, ((Fn Tryz.prog 25 [(TV.agg [(AV.fz (FV.int .i64 n186)), (AV.fz (FV.str s93)), (AV.fz (FV.bool b97)), (AV.fz (FV.sl 1 es372)), (AV.fz (FV.sl 8 es373)), (AV.fz (FV.int .i64 n187)), (AV.fz (FV.sl 1 es374)), (AV.fz (FV.sl 1 es375))])] [] (TV.agg [(AV.fz (FV.int .i64 n188)), (AV.fz (FV.str s94)), (AV.fz (FV.bool b98)), (AV.fz (FV.sl 1 es377)), (AV.ofl 8 0), (AV.fz (FV.int .i64 n189)), (AV.fz (FV.sl 1 es378)), (AV.fz (FV.sl 1 es379))]) [(Ob.f 0 8 es376)]) ∧ ((((0 : Int) ≤ 0) ∧ ((0 : Int) < (((List.length es376) : Nat) : Int))) ∧ (∃ n190 : Int, (∃ s95 : ByteArray, (∃ b99 : Bool, (∃ es380 : LL, (∃ es381 : LL, (∃ n191 : Int, (∃ es382 : LL, (∃ es383 : LL, (((es376)[(Int.toNat 0)]? = (some [(FV.int .i64 n190), (FV.str s95), (FV.bool b99), (FV.sl 1 es380), (FV.sl 8 es381), (FV.int .i64 n191), (FV.sl 1 es382), (FV.sl 1 es383)])) ∧ ((((n190 != 1) = true) → ((((0 : Int) ≤ 0) ∧ ((0 : Int) < (((List.length es376) : Nat) : Int))) ∧ (∃ n192 : Int, (∃ s96 : ByteArray, (∃ b100 : Bool, (∃ es384 : LL, (∃ es385 : LL, (∃ n193 : Int, (∃ es386 : LL, (∃ es387 : LL, (((es376)[(Int.toNat 0)]? = (some [(FV.int .i64 n192), (FV.str s96), (FV.bool b100), (FV.sl 1 es384), (FV.sl 8 es385), (FV.int .i64 n193), (FV.sl 1 es386), (FV.sl 1 es387)])) ∧ ((((n192 != 2) = true) → (R (TV.tup [(true, [(AV.fz (FV.int .i64 0)), (AV.fz (FV.str (ByteArray.mk #[]))), (AV.fz (FV.bool false)), (AV.ofl 1 0), (AV.ofl 8 1), (AV.fz (FV.int .i64 0)), (AV.ofl 1 2), (AV.ofl 1 3)]), (false, [(AV.fz (FV.int .i64 7))])]) [(Ob.f 0 1 ([] : LL)), (Ob.f 0 8 ([] : LL)), (Ob.f 0 1 ([] : LL)), (Ob.f 0 1 ([] : LL))])) ∧ (((n192 != 2) = false) → ((((0 : Int) ≤ 0) ∧ ((0 : Int) < (((List.length es376) : Nat) : Int))) ∧ (∃ n194 : Int, (∃ s97 : ByteArray, (∃ b101 : Bool, (∃ es388 : LL, (∃ es389 : LL, (∃ n195 : Int, (∃ es390 : LL, (∃ es391 : LL, (((es376)[(Int.toNat 0)]? = (some [(FV.int .i64 n194), (FV.str s97), (FV.bool b101), (FV.sl 1 es388), (FV.sl 8 es389), (FV.int .i64 n195), (FV.sl 1 es390), (FV.sl 1 es391)])) ∧ (((((((List.length es389) : Nat) : Int) == 0) = true) → (R (TV.tup [(true, [(AV.fz (FV.int .i64 0)), (AV.fz (FV.str (ByteArray.mk #[]))), (AV.fz (FV.bool false)), (AV.ofl 1 0), (AV.ofl 8 1), (AV.fz (FV.int .i64 0)), (AV.ofl 1 2), (AV.ofl 1 3)]), (false, [(AV.fz (FV.int .i64 7))])]) [(Ob.f 0 1 ([] : LL)), (Ob.f 0 8 ([] : LL)), (Ob.f 0 1 ([] : LL)), (Ob.f 0 1 ([] : LL))])) ∧ ((((((List.length es389) : Nat) : Int) == 0) = false) → ((((0 : Int) ≤ 0) ∧ ((0 : Int) < (((List.length es376) : Nat) : Int))) ∧ (∃ n196 : Int, (∃ s98 : ByteArray, (∃ b102 : Bool, (∃ es392 : LL, (∃ es393 : LL, (∃ n197 : Int, (∃ es394 : LL, (∃ es395 : LL, (((es376)[(Int.toNat 0)]? = (some [(FV.int .i64 n196), (FV.str s98), (FV.bool b102), (FV.sl 1 es392), (FV.sl 8 es393), (FV.int .i64 n197), (FV.sl 1 es394), (FV.sl 1 es395)])) ∧ (∃ es396 : LL, (∃ n198 : Int, (∃ s99 : ByteArray, (∃ b103 : Bool, (∃ es397 : LL, (∃ n199 : Int, (∃ es398 : LL, (∃ es399 : LL, ((Fn Tryz.prog 25 [(TV.agg [(AV.fz (FV.int .i64 n196)), (AV.fz (FV.str s98)), (AV.fz (FV.bool b102)), (AV.fz (FV.sl 1 es392)), (AV.fz (FV.sl 8 es393)), (AV.fz (FV.int .i64 n197)), (AV.fz (FV.sl 1 es394)), (AV.fz (FV.sl 1 es395))])] [] (TV.agg [(AV.fz (FV.int .i64 n198)), (AV.fz (FV.str s99)), (AV.fz (FV.bool b103)), (AV.fz (FV.sl 1 es397)), (AV.ofl 8 0), (AV.fz (FV.int .i64 n199)), (AV.fz (FV.sl 1 es398)), (AV.fz (FV.sl 1 es399))]) [(Ob.f 0 8 es396)]) ∧ (∃ n200 : Int, (∃ s100 : ByteArray, (∃ b104 : Bool, (∃ es400 : LL, (∃ es401 : LL, (∃ n201 : Int, (∃ es402 : LL, (∃ es403 : LL, ((Fn Tryz.prog 88 [(TV.one (AV.fz (FV.str (ByteArray.mk #[95])))), (TV.one (AV.fz (FV.int .i64 mark)))] [] (TV.agg [(AV.fz (FV.int .i64 n200)), (AV.fz (FV.str s100)), (AV.fz (FV.bool b104)), (AV.fz (FV.sl 1 es400)), (AV.fz (FV.sl 8 es401)), (AV.fz (FV.int .i64 n201)), (AV.fz (FV.sl 1 es402)), (AV.fz (FV.sl 1 es403))]) []) ∧ ((((0 : Int) ≤ 0) ∧ ((0 : Int) < (((List.length es396) : Nat) : Int))) ∧ (((Int.toNat 0) < (List.length es396)) ∧ (∃ n202 : Int, (∃ s101 : ByteArray, (∃ b105 : Bool, (∃ es404 : LL, (∃ es405 : LL, (∃ n203 : Int, (∃ es406 : LL, (∃ es407 : LL, ((Fn Tryz.prog 88 [(TV.one (AV.fz (FV.str (ByteArray.mk #[37, 115, 121, 110, 116, 97, 120])))), (TV.one (AV.fz (FV.int .i64 mark)))] [] (TV.agg [(AV.fz (FV.int .i64 n202)), (AV.fz (FV.str s101)), (AV.fz (FV.bool b105)), (AV.fz (FV.sl 1 es404)), (AV.fz (FV.sl 8 es405)), (AV.fz (FV.int .i64 n203)), (AV.fz (FV.sl 1 es406)), (AV.fz (FV.sl 1 es407))]) []) ∧ ((((0 : Int) ≤ 1) ∧ ((1 : Int) < (((List.length es376) : Nat) : Int))) ∧ (∃ n204 : Int, (∃ s102 : ByteArray, (∃ b106 : Bool, (∃ es408 : LL, (∃ es409 : LL, (∃ n205 : Int, (∃ es410 : LL, (∃ es411 : LL, (((es376)[(Int.toNat 1)]? = (some [(FV.int .i64 n204), (FV.str s102), (FV.bool b106), (FV.sl 1 es408), (FV.sl 8 es409), (FV.int .i64 n205), (FV.sl 1 es410), (FV.sl 1 es411)])) ∧ (∃ n206 : Int, (∃ s103 : ByteArray, (∃ b107 : Bool, (∃ es412 : LL, (∃ es413 : LL, (∃ n207 : Int, (∃ es414 : LL, (∃ es415 : LL, ((Fn Tryz.prog 53 [(TV.one (AV.fz (FV.sl 8 [[(FV.int .i64 n202), (FV.str s101), (FV.bool b105), (FV.sl 1 es404), (FV.sl 8 es405), (FV.int .i64 n203), (FV.sl 1 es406), (FV.sl 1 es407)], [(FV.int .i64 n204), (FV.str s102), (FV.bool b106), (FV.sl 1 es408), (FV.sl 8 es409), (FV.int .i64 n205), (FV.sl 1 es410), (FV.sl 1 es411)]])))] [] (TV.agg [(AV.fz (FV.int .i64 n206)), (AV.fz (FV.str s103)), (AV.fz (FV.bool b107)), (AV.fz (FV.sl 1 es412)), (AV.fz (FV.sl 8 es413)), (AV.fz (FV.int .i64 n207)), (AV.fz (FV.sl 1 es414)), (AV.fz (FV.sl 1 es415))]) []) ∧ (∃ n208 : Int, (∃ s104 : ByteArray, (∃ b108 : Bool, (∃ es416 : LL, (∃ es417 : LL, (∃ n209 : Int, (∃ es418 : LL, (∃ es419 : LL, ((Fn Tryz.prog 53 [(TV.one (AV.fz (FV.sl 8 [[(FV.int .i64 n198), (FV.str s99), (FV.bool b103), (FV.sl 1 es397), (FV.sl 8 (List.set es396 (Int.toNat 0) [(FV.int .i64 n200), (FV.str s100), (FV.bool b104), (FV.sl 1 es400), (FV.sl 8 es401), (FV.int .i64 n201), (FV.sl 1 es402), (FV.sl 1 es403)])), (FV.int .i64 n199), (FV.sl 1 es398), (FV.sl 1 es399)], [(FV.int .i64 n206), (FV.str s103), (FV.bool b107), (FV.sl 1 es412), (FV.sl 8 es413), (FV.int .i64 n207), (FV.sl 1 es414), (FV.sl 1 es415)]])))] [] (TV.agg [(AV.fz (FV.int .i64 n208)), (AV.fz (FV.str s104)), (AV.fz (FV.bool b108)), (AV.fz (FV.sl 1 es416)), (AV.fz (FV.sl 8 es417)), (AV.fz (FV.int .i64 n209)), (AV.fz (FV.sl 1 es418)), (AV.fz (FV.sl 1 es419))]) []) ∧ (((((List.length o) + (List.length [[(FV.int .i64 n208), (FV.str s104), (FV.bool b108), (FV.sl 1 es416), (FV.sl 8 es417), (FV.int .i64 n209), (FV.sl 1 es418), (FV.sl 1 es419)]])) * 136) ≤ 220000000000000) ∧ (ref17_RulesO_L1 R mark (IntKind.wrap .i64 (i1 + 1)) es (o ++ [[(FV.int .i64 n208), (FV.str s104), (FV.bool b108), (FV.sl 1 es416), (FV.sl 8 es417), (FV.int .i64 n209), (FV.sl 1 es418), (FV.sl 1 es419)]]))))))))))))))))))))))))))))))))))))))))))))))))))))))))))))))))))))))))))))))))))))))))))))))) ∧ (((n190 != 1) = false) → ((((0 : Int) ≤ 0) ∧ ((0 : Int) < (((List.length es376) : Nat) : Int))) ∧ (∃ n210 : Int, (∃ s105 : ByteArray, (∃ b109 : Bool, (∃ es420 : LL, (∃ es421 : LL, (∃ n211 : Int, (∃ es422 : LL, (∃ es423 : LL, (((es376)[(Int.toNat 0)]? = (some [(FV.int .i64 n210), (FV.str s105), (FV.bool b109), (FV.sl 1 es420), (FV.sl 8 es421), (FV.int .i64 n211), (FV.sl 1 es422), (FV.sl 1 es423)])) ∧ (((((((List.length es421) : Nat) : Int) == 0) = true) → (R (TV.tup [(true, [(AV.fz (FV.int .i64 0)), (AV.fz (FV.str (ByteArray.mk #[]))), (AV.fz (FV.bool false)), (AV.ofl 1 0), (AV.ofl 8 1), (AV.fz (FV.int .i64 0)), (AV.ofl 1 2), (AV.ofl 1 3)]), (false, [(AV.fz (FV.int .i64 7))])]) [(Ob.f 0 1 ([] : LL)), (Ob.f 0 8 ([] : LL)), (Ob.f 0 1 ([] : LL)), (Ob.f 0 1 ([] : LL))])) ∧ ((((((List.length es421) : Nat) : Int) == 0) = false) → ((((0 : Int) ≤ 0) ∧ ((0 : Int) < (((List.length es376) : Nat) : Int))) ∧ (∃ n212 : Int, (∃ s106 : ByteArray, (∃ b110 : Bool, (∃ es424 : LL, (∃ es425 : LL, (∃ n213 : Int, (∃ es426 : LL, (∃ es427 : LL, (((es376)[(Int.toNat 0)]? = (some [(FV.int .i64 n212), (FV.str s106), (FV.bool b110), (FV.sl 1 es424), (FV.sl 8 es425), (FV.int .i64 n213), (FV.sl 1 es426), (FV.sl 1 es427)])) ∧ (∃ es428 : LL, (∃ n214 : Int, (∃ s107 : ByteArray, (∃ b111 : Bool, (∃ es429 : LL, (∃ n215 : Int, (∃ es430 : LL, (∃ es431 : LL, ((Fn Tryz.prog 25 [(TV.agg [(AV.fz (FV.int .i64 n212)), (AV.fz (FV.str s106)), (AV.fz (FV.bool b110)), (AV.fz (FV.sl 1 es424)), (AV.fz (FV.sl 8 es425)), (AV.fz (FV.int .i64 n213)), (AV.fz (FV.sl 1 es426)), (AV.fz (FV.sl 1 es427))])] [] (TV.agg [(AV.fz (FV.int .i64 n214)), (AV.fz (FV.str s107)), (AV.fz (FV.bool b111)), (AV.fz (FV.sl 1 es429)), (AV.ofl 8 0), (AV.fz (FV.int .i64 n215)), (AV.fz (FV.sl 1 es430)), (AV.fz (FV.sl 1 es431))]) [(Ob.f 0 8 es428)]) ∧ (∃ n216 : Int, (∃ s108 : ByteArray, (∃ b112 : Bool, (∃ es432 : LL, (∃ es433 : LL, (∃ n217 : Int, (∃ es434 : LL, (∃ es435 : LL, ((Fn Tryz.prog 88 [(TV.one (AV.fz (FV.str (ByteArray.mk #[95])))), (TV.one (AV.fz (FV.int .i64 mark)))] [] (TV.agg [(AV.fz (FV.int .i64 n216)), (AV.fz (FV.str s108)), (AV.fz (FV.bool b112)), (AV.fz (FV.sl 1 es432)), (AV.fz (FV.sl 8 es433)), (AV.fz (FV.int .i64 n217)), (AV.fz (FV.sl 1 es434)), (AV.fz (FV.sl 1 es435))]) []) ∧ ((((0 : Int) ≤ 0) ∧ ((0 : Int) < (((List.length es428) : Nat) : Int))) ∧ (((Int.toNat 0) < (List.length es428)) ∧ (∃ n218 : Int, (∃ s109 : ByteArray, (∃ b113 : Bool, (∃ es436 : LL, (∃ es437 : LL, (∃ n219 : Int, (∃ es438 : LL, (∃ es439 : LL, ((Fn Tryz.prog 88 [(TV.one (AV.fz (FV.str (ByteArray.mk #[37, 115, 121, 110, 116, 97, 120])))), (TV.one (AV.fz (FV.int .i64 mark)))] [] (TV.agg [(AV.fz (FV.int .i64 n218)), (AV.fz (FV.str s109)), (AV.fz (FV.bool b113)), (AV.fz (FV.sl 1 es436)), (AV.fz (FV.sl 8 es437)), (AV.fz (FV.int .i64 n219)), (AV.fz (FV.sl 1 es438)), (AV.fz (FV.sl 1 es439))]) []) ∧ ((((0 : Int) ≤ 1) ∧ ((1 : Int) < (((List.length es376) : Nat) : Int))) ∧ (∃ n220 : Int, (∃ s110 : ByteArray, (∃ b114 : Bool, (∃ es440 : LL, (∃ es441 : LL, (∃ n221 : Int, (∃ es442 : LL, (∃ es443 : LL, (((es376)[(Int.toNat 1)]? = (some [(FV.int .i64 n220), (FV.str s110), (FV.bool b114), (FV.sl 1 es440), (FV.sl 8 es441), (FV.int .i64 n221), (FV.sl 1 es442), (FV.sl 1 es443)])) ∧ (∃ n222 : Int, (∃ s111 : ByteArray, (∃ b115 : Bool, (∃ es444 : LL, (∃ es445 : LL, (∃ n223 : Int, (∃ es446 : LL, (∃ es447 : LL, ((Fn Tryz.prog 53 [(TV.one (AV.fz (FV.sl 8 [[(FV.int .i64 n218), (FV.str s109), (FV.bool b113), (FV.sl 1 es436), (FV.sl 8 es437), (FV.int .i64 n219), (FV.sl 1 es438), (FV.sl 1 es439)], [(FV.int .i64 n220), (FV.str s110), (FV.bool b114), (FV.sl 1 es440), (FV.sl 8 es441), (FV.int .i64 n221), (FV.sl 1 es442), (FV.sl 1 es443)]])))] [] (TV.agg [(AV.fz (FV.int .i64 n222)), (AV.fz (FV.str s111)), (AV.fz (FV.bool b115)), (AV.fz (FV.sl 1 es444)), (AV.fz (FV.sl 8 es445)), (AV.fz (FV.int .i64 n223)), (AV.fz (FV.sl 1 es446)), (AV.fz (FV.sl 1 es447))]) []) ∧ (∃ n224 : Int, (∃ s112 : ByteArray, (∃ b116 : Bool, (∃ es448 : LL, (∃ es449 : LL, (∃ n225 : Int, (∃ es450 : LL, (∃ es451 : LL, ((Fn Tryz.prog 53 [(TV.one (AV.fz (FV.sl 8 [[(FV.int .i64 n214), (FV.str s107), (FV.bool b111), (FV.sl 1 es429), (FV.sl 8 (List.set es428 (Int.toNat 0) [(FV.int .i64 n216), (FV.str s108), (FV.bool b112), (FV.sl 1 es432), (FV.sl 8 es433), (FV.int .i64 n217), (FV.sl 1 es434), (FV.sl 1 es435)])), (FV.int .i64 n215), (FV.sl 1 es430), (FV.sl 1 es431)], [(FV.int .i64 n222), (FV.str s111), (FV.bool b115), (FV.sl 1 es444), (FV.sl 8 es445), (FV.int .i64 n223), (FV.sl 1 es446), (FV.sl 1 es447)]])))] [] (TV.agg [(AV.fz (FV.int .i64 n224)), (AV.fz (FV.str s112)), (AV.fz (FV.bool b116)), (AV.fz (FV.sl 1 es448)), (AV.fz (FV.sl 8 es449)), (AV.fz (FV.int .i64 n225)), (AV.fz (FV.sl 1 es450)), (AV.fz (FV.sl 1 es451))]) []) ∧ (((((List.length o) + (List.length [[(FV.int .i64 n224), (FV.str s112), (FV.bool b116), (FV.sl 1 es448), (FV.sl 8 es449), (FV.int .i64 n225), (FV.sl 1 es450), (FV.sl 1 es451)]])) * 136) ≤ 220000000000000) ∧ (ref17_RulesO_L1 R mark (IntKind.wrap .i64 (i1 + 1)) es (o ++ [[(FV.int .i64 n224), (FV.str s112), (FV.bool b116), (FV.sl 1 es448), (FV.sl 8 es449), (FV.int .i64 n225), (FV.sl 1 es450), (FV.sl 1 es451)]])))))))))))))))))))))))))))))))))))))))))))))))))))))))))))))))))))))))))))))))))))))))))))))))))))))))))))))))))))))))))))))))))))))))))) ∧ (((decide (i1 < (((List.length es) : Nat) : Int))) = false) → (∃ n226 : Int, (∃ s113 : ByteArray, (∃ b117 : Bool, (∃ es452 : LL, (∃ es453 : LL, (∃ n227 : Int, (∃ es454 : LL, (∃ es455 : LL, ((Fn Tryz.prog 88 [(TV.one (AV.fz (FV.str (ByteArray.mk #[37, 108, 97, 109, 98, 100, 97])))), (TV.one (AV.fz (FV.int .i64 mark)))] [] (TV.agg [(AV.fz (FV.int .i64 n226)), (AV.fz (FV.str s113)), (AV.fz (FV.bool b117)), (AV.fz (FV.sl 1 es452)), (AV.fz (FV.sl 8 es453)), (AV.fz (FV.int .i64 n227)), (AV.fz (FV.sl 1 es454)), (AV.fz (FV.sl 1 es455))]) []) ∧ (∃ n228 : Int, (∃ s114 : ByteArray, (∃ b118 : Bool, (∃ es456 : LL, (∃ es457 : LL, (∃ n229 : Int, (∃ es458 : LL, (∃ es459 : LL, ((Fn Tryz.prog 88 [(TV.one (AV.fz (FV.str (ByteArray.mk #[120])))), (TV.one (AV.fz (FV.int .i64 mark)))] [] (TV.agg [(AV.fz (FV.int .i64 n228)), (AV.fz (FV.str s114)), (AV.fz (FV.bool b118)), (AV.fz (FV.sl 1 es456)), (AV.fz (FV.sl 8 es457)), (AV.fz (FV.int .i64 n229)), (AV.fz (FV.sl 1 es458)), (AV.fz (FV.sl 1 es459))]) []) ∧ (∃ n230 : Int, (∃ s115 : ByteArray, (∃ b119 : Bool, (∃ es460 : LL, (∃ es461 : LL, (∃ n231 : Int, (∃ es462 : LL, (∃ es463 : LL, ((Fn Tryz.prog 53 [(TV.one (AV.fz (FV.sl 8 [[(FV.int .i64 n228), (FV.str s114), (FV.bool b118), (FV.sl 1 es456), (FV.sl 8 es457), (FV.int .i64 n229), (FV.sl 1 es458), (FV.sl 1 es459)]])))] [] (TV.agg [(AV.fz (FV.int .i64 n230)), (AV.fz (FV.str s115)), (AV.fz (FV.bool b119)), (AV.fz (FV.sl 1 es460)), (AV.fz (FV.sl 8 es461)), (AV.fz (FV.int .i64 n231)), (AV.fz (FV.sl 1 es462)), (AV.fz (FV.sl 1 es463))]) []) ∧ (∃ n232 : Int, (∃ s116 : ByteArray, (∃ b120 : Bool, (∃ es464 : LL, (∃ es465 : LL, (∃ n233 : Int, (∃ es466 : LL, (∃ es467 : LL, ((Fn Tryz.prog 53 [(TV.one (AV.fz (FV.sl 8 o)))] [] (TV.agg [(AV.fz (FV.int .i64 n232)), (AV.fz (FV.str s116)), (AV.fz (FV.bool b120)), (AV.fz (FV.sl 1 es464)), (AV.fz (FV.sl 8 es465)), (AV.fz (FV.int .i64 n233)), (AV.fz (FV.sl 1 es466)), (AV.fz (FV.sl 1 es467))]) []) ∧ (∃ n234 : Int, (∃ s117 : ByteArray, (∃ b121 : Bool, (∃ es468 : LL, (∃ es469 : LL, (∃ n235 : Int, (∃ es470 : LL, (∃ es471 : LL, ((Fn Tryz.prog 53 [(TV.one (AV.fz (FV.sl 8 [[(FV.int .i64 n226), (FV.str s113), (FV.bool b117), (FV.sl 1 es452), (FV.sl 8 es453), (FV.int .i64 n227), (FV.sl 1 es454), (FV.sl 1 es455)], [(FV.int .i64 n230), (FV.str s115), (FV.bool b119), (FV.sl 1 es460), (FV.sl 8 es461), (FV.int .i64 n231), (FV.sl 1 es462), (FV.sl 1 es463)], [(FV.int .i64 n232), (FV.str s116), (FV.bool b120), (FV.sl 1 es464), (FV.sl 8 es465), (FV.int .i64 n233), (FV.sl 1 es466), (FV.sl 1 es467)]])))] [] (TV.agg [(AV.fz (FV.int .i64 n234)), (AV.fz (FV.str s117)), (AV.fz (FV.bool b121)), (AV.fz (FV.sl 1 es468)), (AV.fz (FV.sl 8 es469)), (AV.fz (FV.int .i64 n235)), (AV.fz (FV.sl 1 es470)), (AV.fz (FV.sl 1 es471))]) []) ∧ (∃ b122 : Bool, ((Fn Tryz.prog 23 [(TV.agg [(AV.fz (FV.int .i64 n234)), (AV.fz (FV.str s117)), (AV.fz (FV.bool b121)), (AV.fz (FV.sl 1 es468)), (AV.fz (FV.sl 8 es469)), (AV.fz (FV.int .i64 n235)), (AV.fz (FV.sl 1 es470)), (AV.fz (FV.sl 1 es471))])] [] (TV.one (AV.fz (FV.bool b122))) []) ∧ ((((Bool.not b122) = true) → (R (TV.tup [(true, [(AV.fz (FV.int .i64 0)), (AV.fz (FV.str (ByteArray.mk #[]))), (AV.fz (FV.bool false)), (AV.ofl 1 0), (AV.ofl 8 1), (AV.fz (FV.int .i64 0)), (AV.ofl 1 2), (AV.ofl 1 3)]), (false, [(AV.fz (FV.int .i64 6))])]) [(Ob.f 0 1 ([] : LL)), (Ob.f 0 8 ([] : LL)), (Ob.f 0 1 ([] : LL)), (Ob.f 0 1 ([] : LL))])) ∧ (((Bool.not b122) = false) → (R (TV.tup [(true, [(AV.fz (FV.int .i64 n234)), (AV.fz (FV.str s117)), (AV.fz (FV.bool b121)), (AV.fz (FV.sl 1 es468)), (AV.fz (FV.sl 8 es469)), (AV.fz (FV.int .i64 n235)), (AV.fz (FV.sl 1 es470)), (AV.fz (FV.sl 1 es471))]), (false, [(AV.fz (FV.int .i64 0))])]) []))))))))))))))))))))))))))))))))))))))))))))))))))))
theorem ref17_RulesO_l1 {R : TV → List Ob → Prop} {mark : Int} {i1 : Int} {es : LL} {o : LL} (h : ref17_RulesO_R1 R mark i1 es o) : ref17_RulesO_L1 R mark i1 es o :=
 LoopAt.by_tr (by kernel_rfl) (by kernel_rfl) h
def ref17_RulesO_H (R : TV → List Ob → Prop) (x0 : Int) (x1 : ByteArray) (x2 : Bool) (x3 : LL) (x4 : LL) (x5 : Int) (x6 : LL) (x7 : LL) (mark : Int) : Prop :=
 (∃ b95 : Bool, ((Fn Tryz.prog 23 [(TV.agg [(AV.fz (FV.int .i64 x0)), (AV.fz (FV.str x1)), (AV.fz (FV.bool x2)), (AV.fz (FV.sl 1 x3)), (AV.fz (FV.sl 8 x4)), (AV.fz (FV.int .i64 x5)), (AV.fz (FV.sl 1 x6)), (AV.fz (FV.sl 1 x7))])] [] (TV.one (AV.fz (FV.bool b95))) []) ∧ ((((Bool.not b95) = true) → (R (TV.tup [(true, [(AV.fz (FV.int .i64 0)), (AV.fz (FV.str (ByteArray.mk #[]))), (AV.fz (FV.bool false)), (AV.ofl 1 0), (AV.ofl 8 1), (AV.fz (FV.int .i64 0)), (AV.ofl 1 2), (AV.ofl 1 3)]), (false, [(AV.fz (FV.int .i64 2))])]) [(Ob.f 0 1 ([] : LL)), (Ob.f 0 8 ([] : LL)), (Ob.f 0 1 ([] : LL)), (Ob.f 0 1 ([] : LL))])) ∧ (((Bool.not b95) = false) → ((((decide (mark < 1)) = true) → (R (TV.tup [(true, [(AV.fz (FV.int .i64 0)), (AV.fz (FV.str (ByteArray.mk #[]))), (AV.fz (FV.bool false)), (AV.ofl 1 0), (AV.ofl 8 1), (AV.fz (FV.int .i64 0)), (AV.ofl 1 2), (AV.ofl 1 3)]), (false, [(AV.fz (FV.int .i64 1))])]) [(Ob.f 0 1 ([] : LL)), (Ob.f 0 8 ([] : LL)), (Ob.f 0 1 ([] : LL)), (Ob.f 0 1 ([] : LL))])) ∧ (((decide (mark < 1)) = false) → ((((x0 != 1) = true) → (R (TV.tup [(true, [(AV.fz (FV.int .i64 0)), (AV.fz (FV.str (ByteArray.mk #[]))), (AV.fz (FV.bool false)), (AV.ofl 1 0), (AV.ofl 8 1), (AV.fz (FV.int .i64 0)), (AV.ofl 1 2), (AV.ofl 1 3)]), (false, [(AV.fz (FV.int .i64 7))])]) [(Ob.f 0 1 ([] : LL)), (Ob.f 0 8 ([] : LL)), (Ob.f 0 1 ([] : LL)), (Ob.f 0 1 ([] : LL))])) ∧ (((x0 != 1) = false) → ((((decide ((((List.length x4) : Nat) : Int) < 2)) = true) → (R (TV.tup [(true, [(AV.fz (FV.int .i64 0)), (AV.fz (FV.str (ByteArray.mk #[]))), (AV.fz (FV.bool false)), (AV.ofl 1 0), (AV.ofl 8 1), (AV.fz (FV.int .i64 0)), (AV.ofl 1 2), (AV.ofl 1 3)]), (false, [(AV.fz (FV.int .i64 7))])]) [(Ob.f 0 1 ([] : LL)), (Ob.f 0 8 ([] : LL)), (Ob.f 0 1 ([] : LL)), (Ob.f 0 1 ([] : LL))])) ∧ (((decide ((((List.length x4) : Nat) : Int) < 2)) = false) → (∃ es364 : LL, (∃ n182 : Int, (∃ s91 : ByteArray, (∃ b96 : Bool, (∃ es365 : LL, (∃ n183 : Int, (∃ es366 : LL, (∃ es367 : LL, ((Fn Tryz.prog 25 [(TV.agg [(AV.fz (FV.int .i64 x0)), (AV.fz (FV.str x1)), (AV.fz (FV.bool x2)), (AV.fz (FV.sl 1 x3)), (AV.fz (FV.sl 8 x4)), (AV.fz (FV.int .i64 x5)), (AV.fz (FV.sl 1 x6)), (AV.fz (FV.sl 1 x7))])] [] (TV.agg [(AV.fz (FV.int .i64 n182)), (AV.fz (FV.str s91)), (AV.fz (FV.bool b96)), (AV.fz (FV.sl 1 es365)), (AV.ofl 8 0), (AV.fz (FV.int .i64 n183)), (AV.fz (FV.sl 1 es366)), (AV.fz (FV.sl 1 es367))]) [(Ob.f 0 8 es364)]) ∧ ((((0 : Int) ≤ 1) ∧ ((1 : Int) < (((List.length es364) : Nat) : Int))) ∧ (∃ n184 : Int, (∃ s92 : ByteArray, (∃ b97 : Bool, (∃ es368 : LL, (∃ es369 : LL, (∃ n185 : Int, (∃ es370 : LL, (∃ es371 : LL, (((es364)[(Int.toNat 1)]? = (some [(FV.int .i64 n184), (FV.str s92), (FV.bool b97), (FV.sl 1 es368), (FV.sl 8 es369), (FV.int .i64 n185), (FV.sl 1 es370), (FV.sl 1 es371)])) ∧ ((((n184 != 1) = true) → (R (TV.tup [(true, [(AV.fz (FV.int .i64 0)), (AV.fz (FV.str (ByteArray.mk #[]))), (AV.fz (FV.bool false)), (AV.ofl 1 0), (AV.ofl 8 1), (AV.fz (FV.int .i64 0)), (AV.ofl 1 2), (AV.ofl 1 3)]), (false, [(AV.fz (FV.int .i64 7))])]) [(Ob.f 0 1 ([] : LL)), (Ob.f 0 8 ([] : LL)), (Ob.f 0 1 ([] : LL)), (Ob.f 0 1 ([] : LL))])) ∧ (((n184 != 1) = false) → ((((0 : Int) ≤ 1) ∧ ((1 : Int) < (((List.length es364) : Nat) : Int))) ∧ (∃ n186 : Int, (∃ s93 : ByteArray, (∃ b98 : Bool, (∃ es372 : LL, (∃ es373 : LL, (∃ n187 : Int, (∃ es374 : LL, (∃ es375 : LL, (((es364)[(Int.toNat 1)]? = (some [(FV.int .i64 n186), (FV.str s93), (FV.bool b98), (FV.sl 1 es372), (FV.sl 8 es373), (FV.int .i64 n187), (FV.sl 1 es374), (FV.sl 1 es375)])) ∧ (∃ es376 : LL, (∃ n188 : Int, (∃ s94 : ByteArray, (∃ b99 : Bool, (∃ es377 : LL, (∃ n189 : Int, (∃ es378 : LL, (∃ es379 : LL, ((Fn Tryz.prog 25 [(TV.agg [(AV.fz (FV.int .i64 n186)), (AV.fz (FV.str s93)), (AV.fz (FV.bool b98)), (AV.fz (FV.sl 1 es372)), (AV.fz (FV.sl 8 es373)), (AV.fz (FV.int .i64 n187)), (AV.fz (FV.sl 1 es374)), (AV.fz (FV.sl 1 es375))])] [] (TV.agg [(AV.fz (FV.int .i64 n188)), (AV.fz (FV.str s94)), (AV.fz (FV.bool b99)), (AV.fz (FV.sl 1 es377)), (AV.ofl 8 0), (AV.fz (FV.int .i64 n189)), (AV.fz (FV.sl 1 es378)), (AV.fz (FV.sl 1 es379))]) [(Ob.f 0 8 es376)]) ∧ (ref17_RulesO_L0 R mark 0 es364 n188 s94 b99 es377 n189 es378 es379 es376)))))))))))))))))))))))))))))))))))))))))))))))))))
theorem ref17_RulesO_fc (x0 : Int) (x1 : ByteArray) (x2 : Bool) (x3 : LL) (x4 : LL) (x5 : Int) (x6 : LL) (x7 : LL) (mark : Int) {r : TV} {h : List Ob} (H : ref17_RulesO_H (fun r' h' => Cool 0 r' h' r h) x0 x1 x2 x3 x4 x5 x6 x7 mark) : Fn Tryz.prog 52 [(TV.agg [(AV.fz (FV.int .i64 x0)), (AV.fz (FV.str x1)), (AV.fz (FV.bool x2)), (AV.fz (FV.sl 1 x3)), (AV.fz (FV.sl 8 x4)), (AV.fz (FV.int .i64 x5)), (AV.fz (FV.sl 1 x6)), (AV.fz (FV.sl 1 x7))]), (TV.one (AV.fz (FV.int .i64 mark)))] [] r h :=
 Fn.by_trC (M := (modeOf [] [(25, [(Sig.mk 0 [(true, [(AT.k (CK.int .i64)), (AT.k CK.str), (AT.k CK.bool), (AT.k (CK.sl 1)), (AT.a (AV.ofl 8 0)), (AT.k (CK.int .i64)), (AT.k (CK.sl 1)), (AT.k (CK.sl 1))])] [(OT.f 0 8)] 0)])])) (lv := ref17_RulesO_lv) (own := (some 0)) (F := Tryz.f52) (by kernel_rfl) (by kernel_rfl) (by first | decide | simp) (fun _ _ h => h) (by kernel_rfl) H
def law18_light_lv : List Nat → Keep := lvOf [([0, 1, 0, 1, 1], ⟨38, 0, [], false, false⟩)]
def law18_light_S0 (x0 : Int) (x1 : ByteArray) (x2 : Bool) (x3 : LL) (x4 : LL) (x5 : Int) (x6 : LL) (x7 : LL) (depth : Int) (i : Int) : St := (St.mk [TV.und, (TV.one (AV.fz (FV.int .i64 depth))), (TV.one (AV.ptr 0 0 0 0)), TV.und, TV.und, (TV.one (AV.fz (FV.int .i64 i))), TV.und, TV.und, TV.und, TV.und, TV.und, TV.und, TV.und, TV.und, TV.und, TV.und, TV.und, TV.und, TV.und, TV.und, TV.und, TV.und, TV.und, TV.und, TV.und, TV.und, TV.und, TV.und, TV.und, TV.und, TV.und, TV.und, TV.und, TV.und, TV.und, TV.und, TV.und, TV.und, TV.und, TV.und, TV.und, TV.und] [(Ob.g 28 [(AV.fz (FV.int .i64 x0)), (AV.fz (FV.str x1)), (AV.fz (FV.bool x2)), (AV.fz (FV.sl 1 x3)), (AV.fz (FV.sl 8 x4)), (AV.fz (FV.int .i64 x5)), (AV.fz (FV.sl 1 x6)), (AV.fz (FV.sl 1 x7))])])
def law18_light_L0 (R : TV → List Ob → Prop) (x0 : Int) (x1 : ByteArray) (x2 : Bool) (x3 : LL) (x4 : LL) (x5 : Int) (x6 : LL) (x7 : LL) (depth : Int) (i : Int) : Prop := LoopAt Tryz.prog (modeOf [] []) law18_light_lv Tryz.f50 none R [1, 1, 0, 1, 0] (law18_light_S0 x0 x1 x2 x3 x4 x5 x6 x7 depth i)
def law18_light_R0 (R : TV → List Ob → Prop) (x0 : Int) (x1 : ByteArray) (x2 : Bool) (x3 : LL) (x4 : LL) (x5 : Int) (x6 : LL) (x7 : LL) (depth : Int) (i : Int) : Prop :=
 ((((decide (i < (((List.length x4) : Nat) : Int))) = true) → (((0 : Int) ≤ i) ∧ (∃ n4 : Int, (∃ s2 : ByteArray, (∃ b4 : Bool, (∃ es8 : LL, (∃ es9 : LL, (∃ n5 : Int, (∃ es10 : LL, (∃ es11 : LL, (((x4)[(Int.toNat i)]? = (some [(FV.int .i64 n4), (FV.str s2), (FV.bool b4), (FV.sl 1 es8), (FV.sl 8 es9), (FV.int .i64 n5), (FV.sl 1 es10), (FV.sl 1 es11)])) ∧ (∃ b5 : Bool, ((Fn Tryz.prog 50 [(TV.agg [(AV.fz (FV.int .i64 n4)), (AV.fz (FV.str s2)), (AV.fz (FV.bool b4)), (AV.fz (FV.sl 1 es8)), (AV.fz (FV.sl 8 es9)), (AV.fz (FV.int .i64 n5)), (AV.fz (FV.sl 1 es10)), (AV.fz (FV.sl 1 es11))]), (TV.one (AV.fz (FV.int .i64 (IntKind.wrap .i64 (depth + 1)))))] [] (TV.one (AV.fz (FV.bool b5))) []) ∧ ((((Bool.not b5) = true) → (R (TV.one (AV.fz (FV.bool false))) [])) ∧ (((Bool.not b5) = false) → (law18_light_L0 R x0 x1 x2 x3 x4 x5 x6 x7 depth (IntKind.wrap .i64 (i + 1)))))))))))))))))) ∧ (((decide (i < (((List.length x4) : Nat) : Int))) = false) → (R (TV.one (AV.fz (FV.bool true))) [])))
theorem law18_light_l0 {R : TV → List Ob → Prop} {x0 : Int} {x1 : ByteArray} {x2 : Bool} {x3 : LL} {x4 : LL} {x5 : Int} {x6 : LL} {x7 : LL} {depth : Int} {i : Int} (h : law18_light_R0 R x0 x1 x2 x3 x4 x5 x6 x7 depth i) : law18_light_L0 R x0 x1 x2 x3 x4 x5 x6 x7 depth i :=
 LoopAt.by_tr (by kernel_rfl) (by kernel_rfl) h
def law18_light_H (R : TV → List Ob → Prop) (x0 : Int) (x1 : ByteArray) (x2 : Bool) (x3 : LL) (x4 : LL) (x5 : Int) (x6 : LL) (x7 : LL) (depth : Int) : Prop :=
 ((((decide ((70 : Int) < depth)) = true) → (R (TV.one (AV.fz (FV.bool false))) [])) ∧ (((decide ((70 : Int) < depth)) = false) → ((((decide ((100 : Int) < (((List.length x4) : Nat) : Int))) = true) → (R (TV.one (AV.fz (FV.bool false))) [])) ∧ (((decide ((100 : Int) < (((List.length x4) : Nat) : Int))) = false) → ((((decide ((300 : Int) < (((List.length x6) : Nat) : Int))) = true) → (R (TV.one (AV.fz (FV.bool false))) [])) ∧ (((decide ((300 : Int) < (((List.length x6) : Nat) : Int))) = false) → ((((decide ((300 : Int) < (((List.length x7) : Nat) : Int))) = true) → (R (TV.one (AV.fz (FV.bool false))) [])) ∧ (((decide ((300 : Int) < (((List.length x7) : Nat) : Int))) = false) → (law18_light_L0 R x0 x1 x2 x3 x4 x5 x6 x7 depth 0)))))))))
theorem law18_light_fn (x0 : Int) (x1 : ByteArray) (x2 : Bool) (x3 : LL) (x4 : LL) (x5 : Int) (x6 : LL) (x7 : LL) (depth : Int) {r : TV} {h : List Ob} (H : law18_light_H (fun r' h' => r' = r ∧ h' = h) x0 x1 x2 x3 x4 x5 x6 x7 depth) : Fn Tryz.prog 50 [(TV.agg [(AV.fz (FV.int .i64 x0)), (AV.fz (FV.str x1)), (AV.fz (FV.bool x2)), (AV.fz (FV.sl 1 x3)), (AV.fz (FV.sl 8 x4)), (AV.fz (FV.int .i64 x5)), (AV.fz (FV.sl 1 x6)), (AV.fz (FV.sl 1 x7))]), (TV.one (AV.fz (FV.int .i64 depth)))] [] r h :=
 Fn.by_tr (M := (modeOf [] [])) (lv := law18_light_lv) (own := none) (F := Tryz.f50) (by kernel_rfl) (by kernel_rfl) (by first | decide | simp) (fun _ _ h => h) (by kernel_rfl) H
end
section
abbrev obF (xs : List Sx) : Ob := .f 0 8 (Sx.rows xs)
abbrev oeT : Sx → Int → TV
 | .mk k t n l _ a m u, e => .tup [(true, [.fz (.int .i64 k), .fz (.str t), .fz (.bool n), .fz (.sl 1 (ints .u32 l)), .ofl 8 0, .fz (.int .i64 a), .fz (.sl 1 (ints .i64 m)), .fz (.sl 1 (ints .i64 u))]), (false, [.fz (.int .i64 e)])]
theorem sOpenO_ok (x : Sx) (hx : x.ok) (hs : x.snd = true) : Fn Tryz.prog 21 [fzX x] [] (oeT x.openV 0) [obF x.openV.list] := by
 have h1 := stxSound_ok x hx
 have h4 := xown_ok x hx
 have h5 := opened_ok x hx
 have key : Fn Tryz.prog 21 [fzX x] [] (oeT x.openV 0) [obX x.openV.list] := by
  rw [hs] at h1
  clear hs
  generalize x.openV = y at *
  obtain ⟨k, t, n, l, xs, a, m, u⟩ := x
  obtain ⟨k1, t1, n1, l1, ys, a1, m1, u1⟩ := y
  unfold fzX at *
  simp only [Sx.row, Sx.list, List.map_cons, List.map_nil] at *
  refine stxO_Open_fk 1 _ _ _ _ _ _ _ _ (by decide) ?_
  unfold stxO_Open_H
  refine ⟨_, h1, fun h => (by cases h), fun hb => ⟨_, _, _, _, _, _, _, _, h4, _, _, _, _, _, _, _, _, h5, ?_⟩⟩
  exact ⟨rfl, ⟨.inl rfl, trivial⟩, rfl⟩
 exact key.topR (o := 0) rfl
abbrev mkT (mk a : Int) : TV := .agg [.fz (.sl 1 (ints .i64 [mk])), .fz (.sl 1 (ints .i64 [0])), .fz (.int .i64 a)]
abbrev sqT (k : Int) (s : ByteArray) (xs : List (List FV)) (a : Int) (m u : List Int) : TV := .agg [.fz (.int .i64 k), .fz (.str s), .fz (.bool false), .fz (.sl 1 []), .fz (.sl 8 xs), .fz (.int .i64 a), .fz (.sl 1 (ints .i64 m)), .fz (.sl 1 (ints .i64 u))]
abbrev sqR (k : Int) (s : ByteArray) (xs : List (List FV)) (a : Int) (m u : List Int) : List FV := [.int .i64 k, .str s, .bool false, .sl 1 [], .sl 8 xs, .int .i64 a, .sl 1 (ints .i64 m), .sl 1 (ints .i64 u)]
theorem symS_row (s : ByteArray) (a mk : Int) : (symS s a mk).row = sqR 4 s [] a [mk] [0] := by simp only [symS, Sx.row, Sx.rows]; rfl
theorem lstS_row (a : Int) (xs : List Sx) : (lstS a xs).row = sqR 1 (ByteArray.mk #[]) (Sx.rows xs) a [] [] := by simp only [lstS, Sx.row]; rfl
theorem mSym_ok (mk a : Int) (s : ByteArray) : Fn Tryz.prog 90 [mkT mk a, .one (.fz (.str s))] [] (sqT 4 s [] a [mk] [0]) [] := by
 refine rules_maker_symbol_fn _ _ _ _ ?_
 unfold rules_maker_symbol_H
 exact ⟨rfl, rfl⟩
theorem mList_ok (mk a : Int) (xs : List (List FV)) : Fn Tryz.prog 91 [mkT mk a, .one (.fz (.sl 8 xs))] [] (sqT 1 (ByteArray.mk #[]) xs a [] []) [] := by
 refine rules_maker_list_fn _ _ _ _ ?_
 unfold rules_maker_list_H
 exact ⟨rfl, rfl⟩
def opB (x : Sx) (n : Int) : Bool := decide (x.kind = 1 ∧ (0 ≤ n → (x.list.length : Int) = n))
abbrev opT (x : Sx) (n : Int) : TV := .tup [(false, [.fz (.sl 8 (if opB x n = true then Sx.rows x.openV.list else []))]), (false, [.fz (.bool (opB x n))])]
theorem opT_t {x : Sx} {n : Int} (h : x.kind = 1 ∧ (0 ≤ n → (x.list.length : Int) = n)) : opT x n = .tup [(false, [.fz (.sl 8 (Sx.rows x.openV.list))]), (false, [.fz (.bool true)])] := by
 unfold opT opB; rw [decide_eq_true h]; rfl
theorem opT_f {x : Sx} {n : Int} (h : ¬ (x.kind = 1 ∧ (0 ≤ n → (x.list.length : Int) = n))) : opT x n = .tup [(false, [.fz (.sl 8 [])]), (false, [.fz (.bool false)])] := by
 unfold opT opB; rw [decide_eq_false h]; rfl
theorem rlOpen_ok (x : Sx) (hx : x.ok) (hs : x.snd = true) (n : Int) : Fn Tryz.prog 89 [fzX x, fzI .i64 n] [] (opT x n) [] := by
 have h1 := sOpen_ok x hx
 rw [show x.openR = x.openV from if_pos hs, show x.errE = 0 from if_pos hs] at h1
 have g1 := @opT_t x n
 have g2 := @opT_f x n
 generalize opT x n = T at *
 generalize x.openV = y at *
 obtain ⟨k, t, b, l, xs, a, m, u⟩ := x
 obtain ⟨k1, t1, b1, l1, ys, a1, m1, u1⟩ := y
 unfold fzX at *
 simp only [Sx.row, Sx.list, Sx.kind, List.map_cons, List.map_nil] at *
 have hl := srows_len xs
 refine rules_open_fn _ _ _ _ _ _ _ _ _ ?_
 unfold rules_open_H
 simp only [hl, bne_t, bne_f, dec_t, dec_f]
 refine ⟨fun hk => ?_, fun hk => ⟨fun hn => ⟨fun hl2 => ?_, fun hl2 => ⟨_, _, _, _, _, _, _, _, _, h1, ?_⟩⟩, fun hn => ⟨_, _, _, _, _, _, _, _, _, h1, ?_⟩⟩⟩
 ·rw [g2 (fun h => hk h.1)]; simp
 ·rw [g2 (fun h => hl2 (h.2 hn))]; simp
 ·rw [g1 ⟨hk, fun _ => hl2⟩]; simp
 ·rw [g1 ⟨hk, fun h => absurd h hn⟩]; simp
abbrev clT : Option Sx → TV
 | some c => .tup [(true, c.row.map .fz), (false, [.fz (.bool true)])]
 | none => .tup [(true, Sx.zero.row.map .fz), (false, [.fz (.bool false)])]
theorem clause_zero : clT none = .tup [(true, [.fz (.int .i64 0), .fz (.str (ByteArray.mk #[])), .fz (.bool false), .fz (.sl 1 []), .fz (.sl 8 []), .fz (.int .i64 0), .fz (.sl 1 []), .fz (.sl 1 [])]), (false, [.fz (.bool false)])] := by
 unfold clT Sx.zero
 simp only [Sx.row, Sx.rows]
 rfl
theorem clause_t {a mk : Int} {p : Sx} {t : Sx} {k1 : Int} {t1 : ByteArray} {b1 : Bool} {l1 : List Int} {ys : List Sx} {a1 : Int} {m1 u1 : List Int} (hp : p.openV = .mk k1 t1 b1 l1 ys a1 m1 u1) : clT (some (lstS a [patV a mk p, lstS a [symS tSyn a mk, t]])) =
  .tup [(true, [.fz (.int .i64 1), .fz (.str (ByteArray.mk #[])), .fz (.bool false), .fz (.sl 1 []), .fz (.sl 8 [[.int .i64 k1, .str t1, .bool b1, .sl 1 (ints .u32 l1), .sl 8 ((Sx.rows ys).set 0 (sqR 4 tUnd [] a [mk] [0])), .int .i64 a1, .sl 1 (ints .i64 m1), .sl 1 (ints .i64 u1)],
   sqR 1 (ByteArray.mk #[]) [sqR 4 tSyn [] a [mk] [0], t.row] a [] []]), .fz (.int .i64 a), .fz (.sl 1 []), .fz (.sl 1 [])]), (false, [.fz (.bool true)])] := by
 rw [← symS_row tUnd, srows_set, ← symS_row tSyn]
 unfold clT patV
 rw [hp]
 simp only
 rw [lstS_row]
 simp only [Sx.rows, Sx.setL, Sx.list, lstS_row, List.map_cons, List.map_nil]
 simp only [Sx.row]
 rfl
theorem mClause_ok (x : Sx) (hx : x.ok) (hs : x.snd = true) (mk a : Int) : Fn Tryz.prog 92 [mkT mk a, fzX x] [] (clT (clauseV a mk x)) [] := by
 have h1 := rlOpen_ok x hx hs 2
 by_cases hc : x.kind = 1 ∧ x.list.length = 2
 ·rw [opT_t ⟨hc.1, fun _ => by omega⟩] at h1
  have hl : x.openV.list.length = 2 := by
   obtain ⟨k, t, b, l, xs, a', m, u⟩ := x
   simp only [Sx.kind, Sx.list] at hc
   rw [hc.1, openV_t (.inl rfl)]
   simpa only [Sx.list, List.length_map] using hc.2
  have hok := openV_ok hx
  have hsub := fun y => @snd_sub x y hs
  have hv : clauseV a mk x = clauseL a mk x.openV.list := by unfold clauseV; rw [if_pos hc]
  rw [hv]
  have hoks : Sx.oks x.openV.list := by
   generalize x.openV = y at hok
   obtain ⟨k1, t1, b1, l1, ys, a1, m1, u1⟩ := y
   unfold Sx.ok at hok
   exact hok.2.2.2.2.2.1
  generalize x.openV.list = ys at *
  match ys, hl with
  | [p, t], _ =>
   have hps := hsub p (by simp)
   have hpo := soks_mem hoks p (by simp)
   have h2 := sOpenO_ok p hpo hps
   have g1 : ∀ k1 t1 b1 l1 ys a1 m1 u1, p.openV = Sx.mk k1 t1 b1 l1 ys a1 m1 u1 → _ := fun k1 t1 b1 l1 ys a1 m1 u1 h => @clause_t a mk p t k1 t1 b1 l1 ys a1 m1 u1 h
   have hpb : patB p = true ↔ ((p.kind = 1 ∨ p.kind = 2) ∧ p.list.length ≠ 0) := by unfold patB; rw [← Bool.decide_and, decide_eq_true_eq]
   have hlen : ((p.kind = 1 ∨ p.kind = 2) ∧ p.list.length ≠ 0) → 0 < p.openV.list.length := by
    intro h
    obtain ⟨k, t, b, l, xs, a', m, u⟩ := p
    simp only [Sx.kind, Sx.list] at h
    rw [openV_t (h.1.imp id .inl)]
    simp only [Sx.list, List.length_map]
    omega
   have g2 : ((p.kind = 1 ∨ p.kind = 2) ∧ p.list.length ≠ 0) → clT (clauseL a mk [p, t]) = clT (some (lstS a [patV a mk p, lstS a [symS tSyn a mk, t]])) := fun h => by simp only [clauseL]; rw [if_pos (hpb.2 h)]
   have g3 : ¬ ((p.kind = 1 ∨ p.kind = 2) ∧ p.list.length ≠ 0) → clT (clauseL a mk [p, t]) = clT none := fun h => by simp only [clauseL]; rw [if_neg (fun h' => h (hpb.1 h'))]
   generalize clT (clauseL a mk [p, t]) = T at *
   generalize clT (some (lstS a [patV a mk p, lstS a [symS tSyn a mk, t]])) = T2 at *
   clear hpb
   generalize p.openV = q at *
   obtain ⟨pk, pt, pb, pl, px, pa, pm, pu⟩ := p
   obtain ⟨qk, qt, qb, ql, qx, qa, qm, qu⟩ := q
   have g1 := g1 _ _ _ _ _ _ _ _ rfl
   rw [g1] at g2
   clear g1 hv
   obtain ⟨tk, tt, tb, tl, tx, ta, tm, tu⟩ := t
   obtain ⟨k, t, b, l, xs, a', m, u⟩ := x
   unfold fzX at *
   simp only [Sx.rows, Sx.row, Sx.list, Sx.kind, List.map_cons, List.map_nil] at h1 h2 g2 g3 hlen ⊢
   have hpl := srows_len px
   have hql := srows_len qx
   refine rules_maker_clauseO_fc _ _ _ _ _ _ _ _ _ _ _ ?_
   unfold rules_maker_clauseO_H
   have tail : ∀ (hq : (pk = 1 ∨ pk = 2) ∧ px.length ≠ 0), (0 : Int) ≤ 0 ∧ (0 : Int) < (((Sx.rows qx).length : Nat) : Int) := fun hq => by rw [hql]; have := hlen hq; omega
   refine ⟨_, _, h1, fun h => (by cases h), fun _ => ⟨by omega, _, _, _, _, _, _, _, _, rfl, by omega, _, _, _, _, _, _, _, _, rfl, ?_⟩⟩
   simp only [hpl, bne_t, bne_f, beq_t, beq_f]
   refine ⟨fun k1 => ⟨fun k2 => ?_, fun k2 => ⟨fun h0 => ?_, fun h0 => ?_⟩⟩, fun k1 => ⟨fun h0 => ?_, fun h0 => ?_⟩⟩
   ·rw [g3 (fun h => h.1.elim k1 k2), clause_zero]; exact ⟨rfl, trivial, rfl⟩
   ·rw [g3 (fun h => h.2 (by omega)), clause_zero]; exact ⟨rfl, trivial, rfl⟩
   ·have hq : (pk = 1 ∨ pk = 2) ∧ px.length ≠ 0 := ⟨.inr k2, by omega⟩
    rw [g2 hq]
    exact ⟨_, _, _, _, _, _, _, _, _, h2, _, _, _, _, _, _, _, _, mSym_ok mk a _, tail hq, by have := tail hq; omega, _, _, _, _, _, _, _, _, mSym_ok mk a _, _, _, _, _, _, _, _, _, mList_ok mk a _, _, _, _, _, _, _, _, _, mList_ok mk a _, rfl, trivial, rfl⟩
   ·rw [g3 (fun h => h.2 (by omega)), clause_zero]; exact ⟨rfl, trivial, rfl⟩
   ·have hq : (pk = 1 ∨ pk = 2) ∧ px.length ≠ 0 := ⟨.inl k1, by omega⟩
    rw [g2 hq]
    exact ⟨_, _, _, _, _, _, _, _, _, h2, _, _, _, _, _, _, _, _, mSym_ok mk a _, tail hq, by have := tail hq; omega, _, _, _, _, _, _, _, _, mSym_ok mk a _, _, _, _, _, _, _, _, _, mList_ok mk a _, _, _, _, _, _, _, _, _, mList_ok mk a _, rfl, trivial, rfl⟩
 ·rw [opT_f (fun h => hc ⟨h.1, by have := h.2 (by omega); omega⟩)] at h1
  have hv : clauseV a mk x = none := by unfold clauseV; rw [if_neg hc]
  rw [hv, clause_zero]
  obtain ⟨k, t, b, l, xs, a', m, u⟩ := x
  unfold fzX at *
  simp only [Sx.row, List.map_cons, List.map_nil] at *
  refine rules_maker_clauseO_fc _ _ _ _ _ _ _ _ _ _ _ ?_
  unfold rules_maker_clauseO_H
  exact ⟨_, _, h1, fun _ => ⟨rfl, trivial, rfl⟩, fun h => (by cases h)⟩
end
section
theorem measL_len : ∀ (xs : List Dt) (dp room n : Int), n ≤ room → 0 < Dt.measL xs dp room n → n + (xs.length : Int) ≤ room
 | [], dp, room, n, hn, h => by simp; omega
 | x :: xs, dp, room, n, hn, h => by
  unfold Dt.measL at h
  by_cases c : x.meas dp (room - n) < 0
  ·rw [if_pos c] at h; omega
  ·rw [if_neg c] at h
   have hl := meas_le x dp (room - n)
   have := measL_len xs dp room (n + x.meas dp (room - n)) (by omega) h
   rw [List.length_cons]
   omega
theorem sxl8 {x : Sx} (h : x.snd = true) : x.list.length ≤ 8192 := by
 have hl := snd_lean h
 unfold Sx.snd at h
 simp only [Bool.and_eq_true] at h
 have h2 := h.2.1
 obtain ⟨k, t, n, l, xs, a, m, u⟩ := x
 unfold Sx.lean at hl
 simp only [Sx.list]
 rcases hl.1 with hk | he
 ·unfold Dt.snd at h2
  have h2 : 0 < (Sx.mk k t n l xs a m u).dt.meas 1 8192 := by simpa using h2
  unfold Sx.dt Dt.meas at h2
  rw [if_neg (by omega), if_pos (by omega)] at h2
  split at h2
  ·have := measL_len _ _ _ _ (by omega) h2
   rw [dts_len] at this
   omega
  ·omega
 ·rw [he]; simp
theorem soks_all : ∀ {ds : List Sx}, (∀ d ∈ ds, d.ok) → Sx.oks ds
 | [], _ => by simp only [Sx.oks]
 | d :: ds, h => by
  simp only [Sx.oks]
  exact ⟨h d (by simp), soks_all fun e he => h e (by simp [he])⟩
theorem oks_list {x : Sx} (h : x.ok) : Sx.oks x.list := by
 obtain ⟨k, t, n, l, xs, a, m, u⟩ := x
 unfold Sx.ok at h
 exact h.2.2.2.2.2.1
theorem symS_ok {s : ByteArray} {a m : Int} (hs : s.size ≤ 1048576) (ha : I64 a) (hm : I64 m) : (symS s a m).ok := by
 unfold symS Sx.ok
 refine ⟨⟨by decide, by decide⟩, hs, Lim.nil _, by simp, by simp, by simp only [Sx.oks], ha, ⟨fun x hx => ?_, by simp⟩, ⟨fun x hx => ?_, by simp⟩⟩
 ·simp only [List.mem_singleton] at hx; rw [hx]; exact hm
 ·simp only [List.mem_singleton] at hx; rw [hx]; exact ⟨by decide, by decide⟩
theorem lstS_ok {a : Int} {xs : List Sx} (ha : I64 a) (hl : xs.length ≤ 1048576) (h : ∀ x ∈ xs, x.ok) : (lstS a xs).ok := by
 unfold lstS Sx.ok
 exact ⟨⟨by decide, by decide⟩, by decide, Lim.nil _, by simp, hl, soks_all h, ha, all64_nil, all64_nil⟩
theorem setL_ok {x : Sx} {ys : List Sx} (hx : x.ok) (hl : ys.length ≤ 1048576) (h : ∀ y ∈ ys, y.ok) : (x.setL ys).ok := by
 obtain ⟨k, t, n, l, xs, a, m, u⟩ := x
 unfold Sx.ok at hx
 unfold Sx.setL Sx.ok
 exact ⟨hx.1, hx.2.1, hx.2.2.1, hx.2.2.2.1, hl, soks_all h, hx.2.2.2.2.2.2.1, hx.2.2.2.2.2.2.2.1, hx.2.2.2.2.2.2.2.2⟩
theorem ok_len {x : Sx} (h : x.ok) : x.list.length ≤ 1048576 := by
 obtain ⟨k, t, n, l, xs, a, m, u⟩ := x
 unfold Sx.ok at h
 exact h.2.2.2.2.1
theorem clauseV_ok {a m : Int} (ha : I64 a) (hm : I64 m) {x c : Sx} (hx : x.ok) (h : clauseV a m x = some c) : c.ok := by
 unfold clauseV at h
 split at h
 ·unfold clauseL at h
  split at h
  ·rename_i p t hl
   split at h
   ·cases h
    have ho := openV_ok hx
    have hoks := oks_list ho
    rw [hl] at hoks
    have hp := soks_mem hoks p (by simp)
    have ht := soks_mem hoks t (by simp)
    have hpo := openV_ok hp
    have hpl := oks_list hpo
    refine lstS_ok ha (by simp) (fun y hy => ?_)
    simp only [List.mem_cons, List.not_mem_nil, or_false] at hy
    rcases hy with rfl | rfl
    ·refine setL_ok hpo (by rw [List.length_set]; exact ok_len hpo) (fun z hz => ?_)
     rcases List.mem_or_eq_of_mem_set hz with hz | rfl
     ·exact soks_mem hpl z hz
     ·exact symS_ok (by decide) ha hm
    ·refine lstS_ok ha (by simp) (fun y hy => ?_)
     simp only [List.mem_cons, List.not_mem_nil, or_false] at hy
     rcases hy with rfl | rfl
     ·exact symS_ok (by decide) ha hm
     ·exact ht
   ·cases h
  ·cases h
 ·cases h
theorem clausesV_ok {a m : Int} (ha : I64 a) (hm : I64 m) : ∀ {xs cs : List Sx}, (∀ x ∈ xs, x.ok) → clausesV a m xs = some cs → cs.length = xs.length ∧ ∀ c ∈ cs, c.ok
 | [], cs, _, h => by cases h; simp
 | x :: xs, cs, hx, h => by
  unfold clausesV at h
  split at h
  ·rename_i c hc
   split at h
   ·rename_i ds hd
    cases h
    obtain ⟨h1, h2⟩ := clausesV_ok ha hm (fun y hy => hx y (by simp [hy])) hd
    refine ⟨by simp [h1], fun y hy => ?_⟩
    rcases List.mem_cons.1 hy with rfl | hy
    ·exact clauseV_ok ha hm (hx x (by simp)) hc
    ·exact h2 y hy
   ·cases h
  ·cases h
theorem rulesO_ok {a m : Int} (ha : I64 a) (hm : I64 m) {acc : List Sx} (hl : acc.length ≤ 1048576) (h : ∀ x ∈ acc, x.ok) : (lstS a [symS tLam a m, lstS a [symS tX a m], lstS a acc]).ok := by
 refine lstS_ok ha (by simp) (fun y hy => ?_)
 simp only [List.mem_cons, List.not_mem_nil, or_false] at hy
 rcases hy with rfl | rfl | rfl
 ·exact symS_ok (by decide) ha hm
 ·exact lstS_ok ha (by simp) (fun y hy => by simp only [List.mem_cons, List.not_mem_nil, or_false] at hy; rw [hy]; exact symS_ok (by decide) ha hm)
 ·exact lstS_ok ha hl h
theorem outO_T (a mk : Int) (acc : List Sx) : fzX (lstS a [symS tLam a mk, lstS a [symS tX a mk], lstS a acc]) =
  sqT 1 (ByteArray.mk #[]) [sqR 4 tLam [] a [mk] [0], sqR 1 (ByteArray.mk #[]) [sqR 4 tX [] a [mk] [0]] a [] [], sqR 1 (ByteArray.mk #[]) (Sx.rows acc) a [] []] a [] [] := by
 unfold fzX
 rw [lstS_row]
 simp only [Sx.rows, lstS_row, symS_row]
 rfl
theorem sxeT_zero (e : Int) : sxeT Sx.zero e = .tup [(true, [.fz (.int .i64 0), .fz (.str (ByteArray.mk #[])), .fz (.bool false), .fz (.sl 1 []), .fz (.sl 8 []), .fz (.int .i64 0), .fz (.sl 1 []), .fz (.sl 1 [])]), (false, [.fz (.int .i64 e)])] := by
 unfold sxeT Sx.zero
 simp only [Sx.row, Sx.rows]
 rfl
def finR (a mk : Int) (acc : List Sx) : Sx × Int := if (lstS a [symS tLam a mk, lstS a [symS tX a mk], lstS a acc]).snd = true then (lstS a [symS tLam a mk, lstS a [symS tX a mk], lstS a acc], 0) else (Sx.zero, 6)
theorem rules_loop1 (mk a : Int) (ha : I64 a) (hmk : I64 mk) (ps : List Sx) (hpl : ps.length ≤ 10000) (hp : ∀ p ∈ ps, p.ok ∧ p.snd = true) (R : TV → List Ob → Prop) (T : Sx × Int) (hR : R (sxeT T.1 T.2) []) : ∀ (d j : Nat) (acc : List Sx), j + d = ps.length → acc.length ≤ 10 + j → (∀ x ∈ acc, x.ok) →
  T = (match clausesV a mk (ps.drop j) with | some cs => finR a mk (acc ++ cs) | none => (Sx.zero, 7)) →
  rules_Rules_L1 R a (Sx.rows ps) ps.length j (ints .i64 [mk]) (ints .i64 [0]) (Sx.rows acc)
 | 0, j, acc, hj, hl, hacc, hT => by
  have hlen := srows_len ps
  rw [List.drop_of_length_le (by omega)] at hT
  simp only [clausesV, List.append_nil] at hT
  have hs := stxSound_ok _ (rulesO_ok ha hmk (by omega) hacc)
  have e1 : (lstS a [symS tLam a mk, lstS a [symS tX a mk], lstS a acc]).snd = true → sxeT T.1 T.2 = sxeT (lstS a [symS tLam a mk, lstS a [symS tX a mk], lstS a acc]) 0 := fun h => by rw [hT]; unfold finR; rw [if_pos h]
  have e2 : (lstS a [symS tLam a mk, lstS a [symS tX a mk], lstS a acc]).snd = false → sxeT T.1 T.2 = sxeT Sx.zero 6 := fun h => by rw [hT]; unfold finR; rw [h]; rfl
  rw [sxeT_zero] at e2
  have e3 : sxeT (lstS a [symS tLam a mk, lstS a [symS tX a mk], lstS a acc]) 0 = .tup [(true, [.fz (.int .i64 1), .fz (.str (ByteArray.mk #[])), .fz (.bool false), .fz (.sl 1 []), .fz (.sl 8 [sqR 4 tLam [] a [mk] [0], sqR 1 (ByteArray.mk #[]) [sqR 4 tX [] a [mk] [0]] a [] [], sqR 1 (ByteArray.mk #[]) (Sx.rows acc) a [] []]), .fz (.int .i64 a), .fz (.sl 1 []), .fz (.sl 1 [])]), (false, [.fz (.int .i64 0)])] := by
   have := outO_T a mk acc
   unfold fzX at this
   unfold sxeT
   injection this with this
   rw [this]; rfl
  rw [e3] at e1
  rw [outO_T] at hs
  generalize (lstS a [symS tLam a mk, lstS a [symS tX a mk], lstS a acc]).snd = b at *
  generalize sxeT T.1 T.2 = T2 at *
  refine rules_Rules_l1 ?_
  unfold rules_Rules_R1
  rw [dec_t, dec_f]
  refine ⟨fun h => by omega, fun _ => ⟨_, _, _, _, _, _, _, _, mSym_ok mk a _, _, _, _, _, _, _, _, _, mSym_ok mk a _, _, _, _, _, _, _, _, _, mList_ok mk a _, _, _, _, _, _, _, _, _, mList_ok mk a _, _, _, _, _, _, _, _, _, mList_ok mk a _, _, hs, ?_⟩⟩
  rw [not_t, not_f]
  exact ⟨fun h => by rw [e2 h] at hR; exact hR, fun h => by rw [e1 h] at hR; exact hR⟩
 | d + 1, j, acc, hj, hl, hacc, hT => by
  have hj1 : j < ps.length := by omega
  have hr := srow_at (List.getElem?_eq_getElem hj1)
  obtain ⟨hyo, hys⟩ := hp ps[j] (List.getElem_mem _)
  have hC := mClause_ok ps[j] hyo hys mk a
  have hdr : ps.drop j = ps[j] :: ps.drop (j + 1) := List.drop_eq_getElem_cons hj1
  rw [hdr] at hT
  simp only [clausesV] at hT
  have e : IntKind.wrap .i64 ((j : Int) + 1) = ((j + 1 : Nat) : Int) := w64 (by omega) (by omega)
  have ih := rules_loop1 mk a ha hmk ps hpl hp R T hR d (j + 1)
  cases hc : clauseV a mk ps[j] with
  | none =>
   rw [hc] at hT hC
   simp only at hT
   rw [clause_zero] at hC
   have hR7 : R (sxeT Sx.zero 7) [] := by rw [hT] at hR; exact hR
   rw [sxeT_zero] at hR7
   generalize ps[j] = y at *
   obtain ⟨k, t, b, l, xs, a', m, u⟩ := y
   unfold fzX at hC
   simp only [Sx.row, List.map_cons, List.map_nil] at hr hC
   refine rules_Rules_l1 ?_
   unfold rules_Rules_R1
   rw [dec_t, dec_f]
   exact ⟨fun _ => ⟨by omega, _, _, _, _, _, _, _, _, hr, _, _, _, _, _, _, _, _, _, hC, fun _ => hR7, fun h => (by cases h)⟩, fun h => by omega⟩
  | some c =>
   rw [hc] at hT hC
   simp only at hT
   have hco := clauseV_ok ha hmk hyo hc
   have ih := ih (acc ++ [c]) (by omega) (by simp; omega) (fun x hx => by
    rcases List.mem_append.1 hx with hx | hx
    ·exact hacc x hx
    ·simp only [List.mem_singleton] at hx; rw [hx]; exact hco) (by
    rw [hT]
    cases clausesV a mk (ps.drop (j + 1)) with
    | none => rfl
    | some cs => simp only [List.append_assoc, List.singleton_append])
   rw [srows_app] at ih
   have hal := srows_len acc
   generalize ps[j] = y at *
   clear hc hT hco
   obtain ⟨k, t, b, l, xs, a', m, u⟩ := y
   obtain ⟨k2, t2, b2, l2, xs2, a2, m2, u2⟩ := c
   unfold fzX clT at hC
   simp only [Sx.row, Sx.rows, List.map_cons, List.map_nil] at hr hC ih
   refine rules_Rules_l1 ?_
   unfold rules_Rules_R1
   rw [dec_t, dec_f, e, hal]
   exact ⟨fun _ => ⟨by omega, _, _, _, _, _, _, _, _, hr, _, _, _, _, _, _, _, _, _, hC, fun h => (by cases h), fun _ => ⟨by simp only [List.length_cons, List.length_nil]; omega, ih⟩⟩, fun h => by omega⟩
theorem rules_loop0 (mk a : Int) (ha : I64 a) (hmk : I64 mk) (p q : Sx) (ps : List Sx) (hpl : ps.length ≤ 9000) (hp : ∀ p ∈ ps, p.ok ∧ p.snd = true) (ls : List Sx) (hll : ls.length ≤ 1048576) (hls : ∀ x ∈ ls, x.ok) (R : TV → List Ob → Prop) (T : Sx × Int) (hR : R (sxeT T.1 T.2) []) : ∀ (d j : Nat), j + d = ls.length →
  T = (if litB (ls.drop j) = true then (match clausesV a mk ps with | some cs => finR a mk ([symS tCase a mk, symS tX a mk, lstS a ls] ++ cs) | none => (Sx.zero, 7)) else (Sx.zero, 7)) →
  rules_Rules_L0 R a (Sx.rows (p :: q :: ps)) (Sx.rows ls) ls.length j (ints .i64 [mk]) (ints .i64 [0])
 | 0, j, hj, hT => by
  rw [List.drop_of_length_le (by omega), if_pos (show litB [] = true from rfl)] at hT
  have h1 := rules_loop1 mk a ha hmk ps (by omega) hp R T hR ps.length 0 [symS tCase a mk, symS tX a mk, lstS a ls] (by omega) (by simp) (fun x hx => by
   simp only [List.mem_cons, List.not_mem_nil, or_false] at hx
   rcases hx with rfl | rfl | rfl
   ·exact symS_ok (by decide) ha hmk
   ·exact symS_ok (by decide) ha hmk
   ·exact lstS_ok ha hll hls) (by rw [List.drop_zero]; exact hT)
  simp only [Sx.rows, symS_row, lstS_row] at h1
  have hlen := srows_len (p :: q :: ps)
  have hdr : List.drop (Int.toNat 2) (Sx.rows (p :: q :: ps)) = Sx.rows ps := by simp [Sx.rows]
  refine rules_Rules_l0 ?_
  unfold rules_Rules_R0
  rw [dec_t, dec_f, hdr, hlen, srows_len]
  exact ⟨fun h => by omega, fun _ => ⟨_, _, _, _, _, _, _, _, mSym_ok mk a _, _, _, _, _, _, _, _, _, mSym_ok mk a _, _, _, _, _, _, _, _, _, mList_ok mk a _, ⟨by omega, by simp only [List.length_cons]; omega⟩, h1⟩⟩
 | d + 1, j, hj, hT => by
  have hj1 : j < ls.length := by omega
  have hr := srow_at (List.getElem?_eq_getElem hj1)
  have hdr : ls.drop j = ls[j] :: ls.drop (j + 1) := List.drop_eq_getElem_cons hj1
  rw [hdr] at hT
  have e : IntKind.wrap .i64 ((j : Int) + 1) = ((j + 1 : Nat) : Int) := w64 (by omega) (by omega)
  have ih := rules_loop0 mk a ha hmk p q ps hpl hp ls hll hls R T hR d (j + 1) (by omega)
  have hR7 : T = (Sx.zero, 7) → R (sxeT Sx.zero 7) [] := fun h => by rw [h] at hR; exact hR
  rw [sxeT_zero] at hR7
  have hT1 : ls[j].kind = 4 → T = (if litB (ls.drop (j + 1)) = true then (match clausesV a mk ps with | some cs => finR a mk ([symS tCase a mk, symS tX a mk, lstS a ls] ++ cs) | none => (Sx.zero, 7)) else (Sx.zero, 7)) := fun h => by
   rw [hT, show litB (ls[j] :: ls.drop (j + 1)) = litB (ls.drop (j + 1)) by unfold litB; rw [List.all_cons, decide_eq_true h, Bool.true_and]]
  have hT2 : ls[j].kind ≠ 4 → T = (Sx.zero, 7) := fun h => by
   rw [hT, show litB (ls[j] :: ls.drop (j + 1)) = false by unfold litB; rw [List.all_cons, decide_eq_false h, Bool.false_and]]
   rfl
  clear hT
  generalize ls[j] = y at *
  obtain ⟨k, t, b, l, xs, a', m, u⟩ := y
  simp only [Sx.kind] at hT1 hT2
  simp only [Sx.row] at hr
  refine rules_Rules_l0 ?_
  unfold rules_Rules_R0
  rw [dec_t, dec_f, e]
  refine ⟨fun _ => ⟨by omega, _, _, _, _, _, _, _, _, hr, ?_⟩, fun h => by omega⟩
  rw [bne_t, bne_f]
  exact ⟨fun h => hR7 (hT2 h), fun h => ih (hT1 h)⟩
def Sx.at0 : Sx → Int
 | .mk _ _ _ _ _ a _ _ => a
theorem ok_at {x : Sx} (h : x.ok) : I64 x.at0 := by
 obtain ⟨k, t, n, l, xs, a, m, u⟩ := x
 unfold Sx.ok at h
 exact h.2.2.2.2.2.2.1
theorem pRules_ok (x : Sx) (hx : x.ok) (mk : Int) (hmk : I64 mk) : Fn Tryz.prog 51 [fzX x, fzI .i64 mk] [] (sxeT (rulesV x.at0 mk (fun q => lstS x.at0 q.openV.list) x).1 (rulesV x.at0 mk (fun q => lstS x.at0 q.openV.list) x).2) [] := by
 have hs := stxSound_ok x hx
 have ha := ok_at hx
 generalize hT : rulesV x.at0 mk (fun q => lstS x.at0 q.openV.list) x = T
 unfold rulesV at hT
 by_cases c1 : x.snd = false
 ·rw [if_pos c1] at hT
  subst hT
  rw [c1] at hs
  rw [sxeT_zero]
  obtain ⟨k, t, b, l, xs, a, m, u⟩ := x
  unfold fzX at *
  simp only [Sx.row, List.map_cons, List.map_nil] at *
  refine rules_Rules_fn _ _ _ _ _ _ _ _ _ ?_
  unfold rules_Rules_H
  exact ⟨_, hs, fun _ => ⟨rfl, rfl⟩, fun h => (by cases h)⟩
 rw [if_neg c1] at hT
 have c1 : x.snd = true := by simpa using c1
 rw [c1] at hs
 by_cases c2 : mk < 1
 ·rw [if_pos c2] at hT
  subst hT
  rw [sxeT_zero]
  obtain ⟨k, t, b, l, xs, a, m, u⟩ := x
  unfold fzX at *
  simp only [Sx.row, List.map_cons, List.map_nil] at *
  refine rules_Rules_fn _ _ _ _ _ _ _ _ _ ?_
  unfold rules_Rules_H
  rw [dec_t, dec_f]
  exact ⟨_, hs, fun h => (by cases h), fun _ => ⟨fun _ => ⟨rfl, rfl⟩, fun h => absurd c2 h⟩⟩
 rw [if_neg c2] at hT
 have hm := mark_ok mk (by omega)
 have ho := rlOpen_ok x hx c1 (-1)
 by_cases c3 : x.kind = 1
 ·rw [if_neg (by simpa using c3)] at hT
  rw [opT_t ⟨c3, fun h => absurd h (by omega)⟩] at ho
  have hoo := openV_ok hx
  have hol := oks_list hoo
  have hsub := fun y => @snd_sub x y c1
  have hlen : x.openV.list.length ≤ 8192 := sxl8 (openV_snd c1)
  generalize x.openV.list = parts at *
  have fin7 : ∀ (R : TV → List Ob → Prop), True := fun _ => trivial
  match parts, hT with
  | [], hT =>
   simp only at hT
   subst hT
   rw [sxeT_zero]
   obtain ⟨k, t, b, l, xs, a, m, u⟩ := x
   unfold fzX at *
   simp only [Sx.row, List.map_cons, List.map_nil, Sx.rows] at *
   refine rules_Rules_fn _ _ _ _ _ _ _ _ _ ?_
   unfold rules_Rules_H
   rw [dec_t, dec_f]
   refine ⟨_, hs, fun h => (by cases h), fun _ => ⟨fun h => absurd h c2, fun _ => ⟨_, _, hm, _, _, ho, fun h => (by cases h), fun _ => ?_⟩⟩⟩
   rw [dec_t, dec_f]
   exact ⟨fun _ => ⟨rfl, rfl⟩, fun h => absurd (by simp) h⟩
  | [p], hT =>
   simp only at hT
   subst hT
   rw [sxeT_zero]
   obtain ⟨k, t, b, l, xs, a, m, u⟩ := x
   unfold fzX at *
   simp only [Sx.row, List.map_cons, List.map_nil, Sx.rows] at *
   refine rules_Rules_fn _ _ _ _ _ _ _ _ _ ?_
   unfold rules_Rules_H
   rw [dec_t, dec_f]
   refine ⟨_, hs, fun h => (by cases h), fun _ => ⟨fun h => absurd h c2, fun _ => ⟨_, _, hm, _, _, ho, fun h => (by cases h), fun _ => ?_⟩⟩⟩
   rw [dec_t, dec_f]
   exact ⟨fun _ => ⟨rfl, rfl⟩, fun h => absurd (by simp) h⟩
  | p :: q :: ps, hT =>
   simp only at hT
   have hqo := soks_mem hol q (by simp)
   have hqs := hsub q (by simp)
   have hq := rlOpen_ok q hqo hqs (-1)
   have hps : ∀ y ∈ ps, y.ok ∧ y.snd = true := fun y hy => ⟨soks_mem hol y (by simp [hy]), hsub y (by simp [hy])⟩
   have hr : (Sx.rows (p :: q :: ps))[(Int.toNat 1)]? = some q.row := by simp [Sx.rows]
   have hl2 : ¬ ((((Sx.rows (p :: q :: ps)).length : Nat) : Int) < 2) := by rw [srows_len]; simp; omega
   by_cases c4 : q.kind = 1
   ·rw [if_neg (by simpa using c4)] at hT
    rw [opT_t ⟨c4, fun h => absurd h (by omega)⟩] at hq
    have hql := oks_list (openV_ok hqo)
    have hqn := ok_len (openV_ok hqo)
    have hcom : T = (if litB (q.openV.list.drop 0) = true then (match clausesV x.at0 mk ps with | some cs => finR x.at0 mk ([symS tCase x.at0 mk, symS tX x.at0 mk, lstS x.at0 q.openV.list] ++ cs) | none => (Sx.zero, 7)) else (Sx.zero, 7)) := by
     rw [← hT, List.drop_zero]
     cases litB q.openV.list with
     | false => rfl
     | true =>
      simp only [Bool.true_eq_false, if_false, if_true]
      cases clausesV x.at0 mk ps with
      | none => rfl
      | some cs => rfl
    have hL := fun R hR => rules_loop0 mk x.at0 ha hmk p q ps (by simp at hlen; omega) hps q.openV.list hqn (fun y hy => soks_mem hql y hy) R T hR q.openV.list.length 0 (by omega) hcom
    clear hcom hT
    generalize q.openV.list = ls at *
    have hll := srows_len ls
    generalize sxeT T.1 T.2 = T2 at *
    generalize hpq : Sx.rows (p :: q :: ps) = prs at *
    obtain ⟨k, t, b, l, xs, a, m, u⟩ := x
    obtain ⟨k2, t2, b2, l2, xs2, a2, m2, u2⟩ := q
    clear hpq
    unfold fzX at *
    simp only [Sx.row, Sx.at0, List.map_cons, List.map_nil] at *
    refine rules_Rules_fn _ _ _ _ _ _ _ _ _ ?_
    unfold rules_Rules_H
    rw [dec_t, dec_f]
    refine ⟨_, hs, fun h => (by cases h), fun _ => ⟨fun h => absurd h c2, fun _ => ⟨_, _, hm, _, _, ho, fun h => (by cases h), fun _ => ?_⟩⟩⟩
    rw [dec_t, dec_f]
    refine ⟨fun h => absurd h hl2, fun _ => ⟨by omega, _, _, _, _, _, _, _, _, hr, _, _, hq, fun h => (by cases h), fun _ => ?_⟩⟩
    rw [hll]
    exact hL _ ⟨rfl, rfl⟩
   ·rw [if_pos c4] at hT
    rw [opT_f (fun h => c4 h.1)] at hq
    subst hT
    rw [sxeT_zero]
    generalize hpq : Sx.rows (p :: q :: ps) = prs at *
    obtain ⟨k, t, b, l, xs, a, m, u⟩ := x
    obtain ⟨k2, t2, b2, l2, xs2, a2, m2, u2⟩ := q
    clear hpq
    unfold fzX at *
    simp only [Sx.row, List.map_cons, List.map_nil] at *
    refine rules_Rules_fn _ _ _ _ _ _ _ _ _ ?_
    unfold rules_Rules_H
    rw [dec_t, dec_f]
    refine ⟨_, hs, fun h => (by cases h), fun _ => ⟨fun h => absurd h c2, fun _ => ⟨_, _, hm, _, _, ho, fun h => (by cases h), fun _ => ?_⟩⟩⟩
    rw [dec_t, dec_f]
    exact ⟨fun h => absurd h hl2, fun _ => ⟨by omega, _, _, _, _, _, _, _, _, hr, _, _, hq, fun _ => ⟨rfl, rfl⟩, fun h => (by cases h)⟩⟩
 ·rw [if_pos c3] at hT
  rw [opT_f (fun h => c3 h.1)] at ho
  subst hT
  rw [sxeT_zero]
  obtain ⟨k, t, b, l, xs, a, m, u⟩ := x
  unfold fzX at *
  simp only [Sx.row, List.map_cons, List.map_nil] at *
  refine rules_Rules_fn _ _ _ _ _ _ _ _ _ ?_
  unfold rules_Rules_H
  rw [dec_t, dec_f]
  exact ⟨_, hs, fun h => (by cases h), fun _ => ⟨fun h => absurd h c2, fun _ => ⟨_, _, hm, _, _, ho, fun _ => ⟨rfl, rfl⟩, fun h => (by cases h)⟩⟩⟩
end
section
theorem rSym_ok (mk : Int) (s : ByteArray) (h : 0 < mk) : Fn Tryz.prog 88 [.one (.fz (.str s)), fzI .i64 mk] [] (sqT 4 s [] 0 [mk] [0]) [] := by
 refine ref17_Sym_fn _ _ ?_
 unfold ref17_Sym_H
 rw [dec_t, dec_f]
 exact ⟨fun _ => ⟨rfl, rfl⟩, fun h' => absurd h h'⟩
theorem rSym0_ok (s : ByteArray) : Fn Tryz.prog 88 [.one (.fz (.str s)), fzI .i64 0] [] (sqT 4 s [] 0 [] []) [] := by
 refine ref17_Sym_fn _ _ ?_
 unfold ref17_Sym_H
 rw [dec_t, dec_f]
 exact ⟨fun h => by omega, fun h' => ⟨rfl, rfl⟩⟩
theorem rList_ok (xs : List (List FV)) : Fn Tryz.prog 53 [.one (.fz (.sl 8 xs))] [] (sqT 1 (ByteArray.mk #[]) xs 0 [] []) [] := by
 refine ref17_List_fn _ ?_
 unfold ref17_List_H
 exact ⟨rfl, rfl⟩
theorem rOpenO_loop (k : Int) (t : ByteArray) (n : Bool) (l : List Int) (a : Int) (m u : List Int) (hm : All64 m) (hu : All64 u) (xs : List Sx) (hl : xs.length ≤ 1048576) (hok : Sx.oks xs)
  (R : TV → List Ob → Prop) (hR : R (TV.agg [.fz (.int .i64 k), .fz (.str t), .fz (.bool n), .fz (.sl 1 (ints .u32 l)), .ofl 8 0, .fz (.int .i64 a), .ofl 1 1, .ofl 1 2]) [.f 0 8 (Sx.rows (xs.map (jn1 m u))), .f 0 1 [], .f 0 1 []]) :
  ∀ (d j : Nat), j + d = xs.length → rOpenO_L0 R k t n (ints .u32 l) (Sx.rows xs) a (ints .i64 m) (ints .i64 u) j (Sx.rows ((xs.take j).map (jn1 m u)))
 | 0, j, hj => by
  refine rOpenO_l0 ?_
  unfold rOpenO_R0
  rw [srows_len, dec_t, dec_f, List.take_of_length_le (by omega)]
  exact ⟨fun h => by omega, fun _ => hR⟩
 | d + 1, j, hj => by
  have hj1 : j < xs.length := by omega
  have hr := srow_at (List.getElem?_eq_getElem hj1)
  have hyo := soks_mem hok xs[j] (List.getElem_mem _)
  have ih := rOpenO_loop k t n l a m u hm hu xs hl hok R hR d (j + 1) (by omega)
  have ht : xs.take (j + 1) = xs.take j ++ [xs[j]] := List.take_succ_eq_append_getElem hj1
  rw [ht, List.map_append, srows_app] at ih
  have hlen : (Sx.rows ((xs.take j).map (jn1 m u))).length = j := by rw [srows_len, List.length_map, List.length_take]; omega
  have h2 := ok_ms hyo
  have h3 := rJoin_ok m u (xs[j]).ms (xs[j]).us hm hu h2.1 h2.2
  generalize xs[j] = y at *
  obtain ⟨k', t', n', l', ys, a', m', u'⟩ := y
  simp only [List.map_cons, List.map_nil, jn1, Sx.withW, Sx.ms, Sx.us, Sx.row, Sx.rows] at h3 hr ih
  have e : IntKind.wrap .i64 ((j : Int) + 1) = ((j + 1 : Nat) : Int) := w64 (by omega) (by omega)
  refine rOpenO_l0 ?_
  unfold rOpenO_R0
  rw [srows_len, dec_t, dec_f, e]
  refine ⟨fun _ => ⟨by omega, _, _, _, _, _, _, _, _, hr, _, _, _, h3, ?_, ih⟩, fun h => by omega⟩
  rw [hlen]
  simp only [List.length_cons, List.length_nil]
  omega
theorem rOpenO_ok (x : Sx) (hx : x.ok) (hk : x.kind = 1 ∨ x.kind = 2 ∨ x.kind = 3) : Fn Tryz.prog 25 [fzX x] [] (fzO x.openV) [obF x.openV.list] := by
 obtain ⟨k, t, n, l, xs, a, m, u⟩ := x
 unfold Sx.ok at hx
 simp only [Sx.kind] at hk
 obtain ⟨_, _, _, _, hxl, hxs, _, hm, hu⟩ := hx
 rw [openV_t hk]
 refine rOpenO_fk 1 _ _ _ _ _ _ _ _ (by decide) ?_
 unfold rOpenO_H
 rw [dec_t, dec_f, dec_t, dec_f]
 exact ⟨fun h => by omega, fun _ => ⟨fun h => by omega, fun _ => rOpenO_loop k t n l a m u hm hu xs hxl hxs _ ⟨rfl, ⟨.inl rfl, trivial⟩, rfl⟩ xs.length 0 (by omega)⟩⟩
abbrev zO (e : Int) : TV := .tup [(true, [.fz (.int .i64 0), .fz (.str (ByteArray.mk #[])), .fz (.bool false), .ofl 1 0, .ofl 8 1, .fz (.int .i64 0), .ofl 1 2, .ofl 1 3]), (false, [.fz (.int .i64 e)])]
abbrev zH : List Ob := [.f 0 1 [], .f 0 8 [], .f 0 1 [], .f 0 1 []]
theorem patV_row {a mk : Int} {p : Sx} {k1 : Int} {t1 : ByteArray} {b1 : Bool} {l1 : List Int} {ys : List Sx} {a1 : Int} {m1 u1 : List Int} (hp : p.openV = .mk k1 t1 b1 l1 ys a1 m1 u1) :
  (patV a mk p).row = [.int .i64 k1, .str t1, .bool b1, .sl 1 (ints .u32 l1), .sl 8 ((Sx.rows ys).set 0 (sqR 4 tUnd [] a [mk] [0])), .int .i64 a1, .sl 1 (ints .i64 m1), .sl 1 (ints .i64 u1)] := by
 rw [← symS_row tUnd, srows_set]
 unfold patV
 rw [hp]
 simp only [Sx.setL, Sx.list, Sx.row]
set_option maxRecDepth 20000 in
set_option maxHeartbeats 1000000 in
theorem rrules_loop1 (mk : Int) (hmk0 : 0 < mk) (hmk : I64 mk) (ps : List Sx) (hpl : ps.length ≤ 10000) (hp : ∀ p ∈ ps, p.ok ∧ p.snd = true) (R : TV → List Ob → Prop) (T : Sx × Int) (hRz : ∀ e, T = (Sx.zero, e) → R (zO e) zH) (hRv : ∀ Z, T = (Z, 0) → R (sxeT Z 0) []) :
  ∀ (d j : Nat) (acc : List Sx), j + d = ps.length → acc.length ≤ 10 + j → (∀ x ∈ acc, x.ok) →
  T = (match clausesV 0 mk (ps.drop j) with | some cs => finR 0 mk (acc ++ cs) | none => (Sx.zero, 7)) →
  ref17_RulesO_L1 R mk j (Sx.rows ps) (Sx.rows acc)
 | 0, j, acc, hj, hl, hacc, hT => by
  have hlen := srows_len ps
  have ha : I64 0 := ⟨by decide, by decide⟩
  rw [List.drop_of_length_le (by omega)] at hT
  simp only [clausesV, List.append_nil] at hT
  have hs := rSound9_ok _ (rulesO_ok ha hmk (by omega) hacc)
  have e1 : (lstS 0 [symS tLam 0 mk, lstS 0 [symS tX 0 mk], lstS 0 acc]).snd = true → R (sxeT (lstS 0 [symS tLam 0 mk, lstS 0 [symS tX 0 mk], lstS 0 acc]) 0) [] := fun h => hRv _ (by rw [hT]; unfold finR; rw [if_pos h])
  have e2 : (lstS 0 [symS tLam 0 mk, lstS 0 [symS tX 0 mk], lstS 0 acc]).snd = false → R (zO 6) zH := fun h => hRz _ (by rw [hT]; unfold finR; rw [h]; rfl)
  have e3 : sxeT (lstS 0 [symS tLam 0 mk, lstS 0 [symS tX 0 mk], lstS 0 acc]) 0 = .tup [(true, [.fz (.int .i64 1), .fz (.str (ByteArray.mk #[])), .fz (.bool false), .fz (.sl 1 []), .fz (.sl 8 [sqR 4 tLam [] 0 [mk] [0], sqR 1 (ByteArray.mk #[]) [sqR 4 tX [] 0 [mk] [0]] 0 [] [], sqR 1 (ByteArray.mk #[]) (Sx.rows acc) 0 [] []]), .fz (.int .i64 0), .fz (.sl 1 []), .fz (.sl 1 [])]), (false, [.fz (.int .i64 0)])] := by
   have := outO_T 0 mk acc
   unfold fzX at this
   unfold sxeT
   injection this with this
   rw [this]; rfl
  rw [e3] at e1
  rw [outO_T] at hs
  generalize (lstS 0 [symS tLam 0 mk, lstS 0 [symS tX 0 mk], lstS 0 acc]).snd = b at *
  refine ref17_RulesO_l1 ?_
  unfold ref17_RulesO_R1
  rw [hlen, dec_t, dec_f]
  refine ⟨fun h => by omega, fun _ => ⟨_, _, _, _, _, _, _, _, rSym_ok mk _ hmk0, _, _, _, _, _, _, _, _, rSym_ok mk _ hmk0, _, _, _, _, _, _, _, _, rList_ok _, _, _, _, _, _, _, _, _, rList_ok _, _, _, _, _, _, _, _, _, rList_ok _, _, hs, ?_⟩⟩
  rw [not_t, not_f]
  exact ⟨e2, e1⟩
 | d + 1, j, acc, hj, hl, hacc, hT => by
  have hj1 : j < ps.length := by omega
  have hlen := srows_len ps
  have ha : I64 0 := ⟨by decide, by decide⟩
  have hr := srow_at (List.getElem?_eq_getElem hj1)
  obtain ⟨hyo, hys⟩ := hp ps[j] (List.getElem_mem _)
  have hdr : ps.drop j = ps[j] :: ps.drop (j + 1) := List.drop_eq_getElem_cons hj1
  rw [hdr] at hT
  simp only [clausesV] at hT
  have e : IntKind.wrap .i64 ((j : Int) + 1) = ((j + 1 : Nat) : Int) := w64 (by omega) (by omega)
  have ih := fun acc => rrules_loop1 mk hmk0 hmk ps hpl hp R T hRz hRv d (j + 1) acc (by omega)
  have hR7 : clauseV 0 mk ps[j] = none → R (zO 7) zH := fun h => hRz 7 (by rw [hT, h])
  have hal := srows_len acc
  have hb : (0 : Int) ≤ (j : Int) ∧ (j : Int) < ((ps.length : Nat) : Int) := by omega
  by_cases c1 : ps[j].kind = 1
  ·by_cases c2 : ps[j].list.length = 2
   ·have hv : clauseV 0 mk ps[j] = clauseL 0 mk ps[j].openV.list := by unfold clauseV; rw [if_pos ⟨c1, c2⟩]
    have hO := rOpenO_ok ps[j] hyo (.inl c1)
    have hol : ps[j].openV.list.length = 2 := by
     generalize ps[j] = x at *
     obtain ⟨k, t, b, l, xs, a', m, u⟩ := x
     simp only [Sx.kind, Sx.list] at c1 c2
     rw [c1, openV_t (.inl rfl)]
     simpa only [Sx.list, List.length_map] using c2
    have hoks := oks_list (openV_ok hyo)
    rw [hv] at hT hR7
    have hco : ∀ c, clauseL 0 mk ps[j].openV.list = some c → c.ok := fun c hc => clauseV_ok ha hmk hyo (by rw [hv, hc])
    generalize ps[j].openV = o at *
    obtain ⟨ok, ot, ob, ol, ox, oa, om, ou⟩ := o
    simp only [Sx.list] at hol hoks hT hR7 hO hco
    match ox, hol with
    | [p, t], _ =>
     have hpo := soks_mem hoks p (by simp)
     have h2 := fun h => rOpenO_ok p hpo h
     have hpb : patB p = true ↔ ((p.kind = 1 ∨ p.kind = 2) ∧ p.list.length ≠ 0) := by unfold patB; rw [← Bool.decide_and, decide_eq_true_eq]
     have hpl2 : ((p.kind = 1 ∨ p.kind = 2) ∧ p.list.length ≠ 0) → (0 : Int) ≤ 0 ∧ (0 : Int) < ((p.openV.list.length : Nat) : Int) := by
      intro h
      obtain ⟨k, t, b, l, xs, a', m, u⟩ := p
      simp only [Sx.kind, Sx.list] at h
      rw [openV_t (h.1.imp id .inl)]
      simp only [Sx.list, List.length_map]
      omega
     have g3 : ¬ ((p.kind = 1 ∨ p.kind = 2) ∧ p.list.length ≠ 0) → R (zO 7) zH := fun h => hR7 (by simp only [clauseL]; rw [if_neg (fun h' => h (hpb.1 h'))])
     have g2 : ((p.kind = 1 ∨ p.kind = 2) ∧ p.list.length ≠ 0) → ref17_RulesO_L1 R mk ((j + 1 : Nat) : Int) (Sx.rows ps) (Sx.rows acc ++ [sqR 1 (ByteArray.mk #[]) [(patV 0 mk p).row, sqR 1 (ByteArray.mk #[]) [sqR 4 tSyn [] 0 [mk] [0], t.row] 0 [] []] 0 [] []]) := fun h => by
      have hcl : clauseL 0 mk [p, t] = some (lstS 0 [patV 0 mk p, lstS 0 [symS tSyn 0 mk, t]]) := by simp only [clauseL]; rw [if_pos (hpb.2 h)]
      rw [hcl] at hT
      simp only at hT
      have := ih (acc ++ [lstS 0 [patV 0 mk p, lstS 0 [symS tSyn 0 mk, t]]]) (by simp; omega) (fun x hx => by
       rcases List.mem_append.1 hx with hx | hx
       ·exact hacc x hx
       ·simp only [List.mem_singleton] at hx; rw [hx]; exact hco _ hcl) (by
       rw [hT]
       cases clausesV 0 mk (ps.drop (j + 1)) with
       | none => rfl
       | some cs => simp only [List.append_assoc, List.singleton_append])
      rw [srows_app] at this
      simp only [Sx.rows, lstS_row, symS_row] at this
      exact this
     have g1 := fun k1 t1 b1 l1 ys a1 m1 u1 h => @patV_row 0 mk p k1 t1 b1 l1 ys a1 m1 u1 h
     generalize (patV 0 mk p).row = prow at *
     clear hT hR7 hpb hco hv ih
     generalize p.openV = q at *
     generalize ps[j] = y at *
     obtain ⟨k, t0, b, l, xs, a', m, u⟩ := y
     obtain ⟨pk, pt, pb, pl, px, pa, pm, pu⟩ := p
     obtain ⟨qk, qt, qb, ql, qx, qa, qm, qu⟩ := q
     have g1 := g1 _ _ _ _ _ _ _ _ rfl
     subst g1
     obtain ⟨tk, tt, tb, tl, tx, ta, tm, tu⟩ := t
     unfold fzX at hO h2
     simp only [Sx.kind, Sx.list, Sx.row, Sx.rows, List.map_cons, List.map_nil] at c1 c2 h2 g2 g3 hpl2 hO hr
     subst c1
     have hxl := srows_len xs
     have hpl := srows_len px
     have hql := srows_len qx
     refine ref17_RulesO_l1 ?_
     unfold ref17_RulesO_R1
     rw [hlen, dec_t, dec_f, e]
     simp only [hxl, bne_t, bne_f, hal]
     refine ⟨fun _ => ⟨hb, _, _, _, _, _, _, _, _, hr, fun h => absurd rfl h, fun _ => ⟨hb, _, _, _, _, _, _, _, _, hr, fun h => absurd (by omega) h, fun _ => ⟨hb, _, _, _, _, _, _, _, _, hr, _, _, _, _, _, _, _, _, hO, ⟨by omega, by first | omega | (simp only [srows_len, List.length_cons, List.length_nil]; omega) | (simp only [List.length_cons, List.length_nil]; omega) | (rw [srows_len]; simp)⟩, _, _, _, _, _, _, _, _, rfl, ?_⟩⟩⟩, fun h => absurd hb.2 h⟩
     simp only [hpl, bne_t, bne_f, beq_t, beq_f]
     refine ⟨fun k1 => ⟨⟨by omega, by first | omega | (simp only [srows_len, List.length_cons, List.length_nil]; omega) | (simp only [List.length_cons, List.length_nil]; omega) | (rw [srows_len]; simp)⟩, _, _, _, _, _, _, _, _, rfl, fun k2 => g3 (fun h => h.1.elim k1 k2), fun k2 => ⟨⟨by omega, by first | omega | (simp only [srows_len, List.length_cons, List.length_nil]; omega) | (simp only [List.length_cons, List.length_nil]; omega) | (rw [srows_len]; simp)⟩, _, _, _, _, _, _, _, _, rfl, ?_⟩⟩, fun k1 => ⟨⟨by omega, by first | omega | (simp only [srows_len, List.length_cons, List.length_nil]; omega) | (simp only [List.length_cons, List.length_nil]; omega) | (rw [srows_len]; simp)⟩, _, _, _, _, _, _, _, _, rfl, ?_⟩⟩
     ·simp only [hpl]
      refine ⟨fun h0 => g3 (fun h => h.2 (by omega)), fun h0 => ?_⟩
      have hq : (pk = 1 ∨ pk = 2) ∧ px.length ≠ 0 := ⟨.inr k2, by omega⟩
      have hqq := hpl2 hq
      rw [← hql] at hqq
      exact ⟨⟨by omega, by first | omega | (simp only [srows_len, List.length_cons, List.length_nil]; omega) | (simp only [List.length_cons, List.length_nil]; omega) | (rw [srows_len]; simp)⟩, _, _, _, _, _, _, _, _, rfl, _, _, _, _, _, _, _, _, h2 (.inr (.inl k2)), _, _, _, _, _, _, _, _, rSym_ok mk _ hmk0, hqq, by omega, _, _, _, _, _, _, _, _, rSym_ok mk _ hmk0, ⟨by omega, by first | omega | (simp only [srows_len, List.length_cons, List.length_nil]; omega) | (simp only [List.length_cons, List.length_nil]; omega) | (rw [srows_len]; simp)⟩, _, _, _, _, _, _, _, _, rfl, _, _, _, _, _, _, _, _, rList_ok _, _, _, _, _, _, _, _, _, rList_ok _, by first | omega | (simp only [srows_len, List.length_cons, List.length_nil]; omega) | (simp only [List.length_cons, List.length_nil]; omega) | (rw [srows_len]; simp), g2 hq⟩
     ·simp only [hpl]
      refine ⟨fun h0 => g3 (fun h => h.2 (by omega)), fun h0 => ?_⟩
      have hq : (pk = 1 ∨ pk = 2) ∧ px.length ≠ 0 := ⟨.inl k1, by omega⟩
      have hqq := hpl2 hq
      rw [← hql] at hqq
      exact ⟨⟨by omega, by first | omega | (simp only [srows_len, List.length_cons, List.length_nil]; omega) | (simp only [List.length_cons, List.length_nil]; omega) | (rw [srows_len]; simp)⟩, _, _, _, _, _, _, _, _, rfl, _, _, _, _, _, _, _, _, h2 (.inl k1), _, _, _, _, _, _, _, _, rSym_ok mk _ hmk0, hqq, by omega, _, _, _, _, _, _, _, _, rSym_ok mk _ hmk0, ⟨by omega, by first | omega | (simp only [srows_len, List.length_cons, List.length_nil]; omega) | (simp only [List.length_cons, List.length_nil]; omega) | (rw [srows_len]; simp)⟩, _, _, _, _, _, _, _, _, rfl, _, _, _, _, _, _, _, _, rList_ok _, _, _, _, _, _, _, _, _, rList_ok _, by first | omega | (simp only [srows_len, List.length_cons, List.length_nil]; omega) | (simp only [List.length_cons, List.length_nil]; omega) | (rw [srows_len]; simp), g2 hq⟩
   ·have hR8 := hR7 (by unfold clauseV; rw [if_neg (fun h => c2 h.2)])
    clear hR7 hT ih
    generalize ps[j] = y at *
    obtain ⟨k, t, b, l, xs, a', m, u⟩ := y
    have hxl := srows_len xs
    simp only [Sx.kind, Sx.list, Sx.row] at c1 c2 hr
    refine ref17_RulesO_l1 ?_
    unfold ref17_RulesO_R1
    rw [hlen, dec_t, dec_f]
    simp only [hxl, bne_t, bne_f]
    exact ⟨fun _ => ⟨hb, _, _, _, _, _, _, _, _, hr, fun h => absurd c1 h, fun _ => ⟨hb, _, _, _, _, _, _, _, _, hr, fun _ => hR8, fun h => absurd (by omega) c2⟩⟩, fun h => absurd hb.2 h⟩
  ·have hR8 := hR7 (by unfold clauseV; rw [if_neg (fun h => c1 h.1)])
   clear hR7 hT ih
   generalize ps[j] = y at *
   obtain ⟨k, t, b, l, xs, a', m, u⟩ := y
   simp only [Sx.row] at hr
   simp only [Sx.kind] at c1
   refine ref17_RulesO_l1 ?_
   unfold ref17_RulesO_R1
   rw [hlen, dec_t, dec_f]
   simp only [bne_t, bne_f]
   exact ⟨fun _ => ⟨hb, _, _, _, _, _, _, _, _, hr, fun _ => hR8, fun h => absurd h c1⟩, fun h => absurd hb.2 h⟩
end
section
def law18_answers_lv : List Nat → Keep := lvOf []
def law18_answers_H (R : TV → List Ob → Prop)  : Prop :=
 (∃ n11 : Int, (∃ s5 : ByteArray, (∃ b5 : Bool, (∃ es20 : LL, (∃ es21 : LL, (∃ n12 : Int, (∃ es22 : LL, (∃ es23 : LL, ((Fn Tryz.prog 88 [(TV.one (AV.fz (FV.str (ByteArray.mk #[107])))), (TV.one (AV.fz (FV.int .i64 0)))] [] (TV.agg [(AV.fz (FV.int .i64 n11)), (AV.fz (FV.str s5)), (AV.fz (FV.bool b5)), (AV.fz (FV.sl 1 es20)), (AV.fz (FV.sl 8 es21)), (AV.fz (FV.int .i64 n12)), (AV.fz (FV.sl 1 es22)), (AV.fz (FV.sl 1 es23))]) []) ∧ (∃ n13 : Int, (∃ s6 : ByteArray, (∃ b6 : Bool, (∃ es24 : LL, (∃ es25 : LL, (∃ n14 : Int, (∃ es26 : LL, (∃ es27 : LL, ((Fn Tryz.prog 53 [(TV.one (AV.fz (FV.sl 8 ([] : LL))))] [] (TV.agg [(AV.fz (FV.int .i64 n13)), (AV.fz (FV.str s6)), (AV.fz (FV.bool b6)), (AV.fz (FV.sl 1 es24)), (AV.fz (FV.sl 8 es25)), (AV.fz (FV.int .i64 n14)), (AV.fz (FV.sl 1 es26)), (AV.fz (FV.sl 1 es27))]) []) ∧ (∃ n15 : Int, (∃ s7 : ByteArray, (∃ b7 : Bool, (∃ es28 : LL, (∃ es29 : LL, (∃ n16 : Int, (∃ es30 : LL, (∃ es31 : LL, ((Fn Tryz.prog 53 [(TV.one (AV.fz (FV.sl 8 [[(FV.int .i64 n11), (FV.str s5), (FV.bool b5), (FV.sl 1 es20), (FV.sl 8 es21), (FV.int .i64 n12), (FV.sl 1 es22), (FV.sl 1 es23)], [(FV.int .i64 n13), (FV.str s6), (FV.bool b6), (FV.sl 1 es24), (FV.sl 8 es25), (FV.int .i64 n14), (FV.sl 1 es26), (FV.sl 1 es27)]])))] [] (TV.agg [(AV.fz (FV.int .i64 n15)), (AV.fz (FV.str s7)), (AV.fz (FV.bool b7)), (AV.fz (FV.sl 1 es28)), (AV.fz (FV.sl 8 es29)), (AV.fz (FV.int .i64 n16)), (AV.fz (FV.sl 1 es30)), (AV.fz (FV.sl 1 es31))]) []) ∧ (∃ n17 : Int, (∃ s8 : ByteArray, (∃ b8 : Bool, (∃ es32 : LL, (∃ es33 : LL, (∃ n18 : Int, (∃ es34 : LL, (∃ es35 : LL, (∃ n19 : Int, ((Fn Tryz.prog 51 [(TV.agg [(AV.fz (FV.int .i64 n15)), (AV.fz (FV.str s7)), (AV.fz (FV.bool b7)), (AV.fz (FV.sl 1 es28)), (AV.fz (FV.sl 8 es29)), (AV.fz (FV.int .i64 n16)), (AV.fz (FV.sl 1 es30)), (AV.fz (FV.sl 1 es31))]), (TV.one (AV.fz (FV.int .i64 3)))] [] (TV.tup [(true, [(AV.fz (FV.int .i64 n17)), (AV.fz (FV.str s8)), (AV.fz (FV.bool b8)), (AV.fz (FV.sl 1 es32)), (AV.fz (FV.sl 8 es33)), (AV.fz (FV.int .i64 n18)), (AV.fz (FV.sl 1 es34)), (AV.fz (FV.sl 1 es35))]), (false, [(AV.fz (FV.int .i64 n19))])]) []) ∧ ((((n19 == 0) = true) → (((((((List.length es33) : Nat) : Int) == 3) = true) → (((0 : Int) ≤ 0) ∧ (∃ n20 : Int, (∃ s9 : ByteArray, (∃ b9 : Bool, (∃ es36 : LL, (∃ es37 : LL, (∃ n21 : Int, (∃ es38 : LL, (∃ es39 : LL, (((es33)[(Int.toNat 0)]? = (some [(FV.int .i64 n20), (FV.str s9), (FV.bool b9), (FV.sl 1 es36), (FV.sl 8 es37), (FV.int .i64 n21), (FV.sl 1 es38), (FV.sl 1 es39)])) ∧ (R (TV.one (AV.fz (FV.bool ((ByteArray.toList s9) == (ByteArray.toList (ByteArray.mk #[37, 108, 97, 109, 98, 100, 97])))))) [])))))))))))) ∧ ((((((List.length es33) : Nat) : Int) == 3) = false) → (R (TV.one (AV.fz (FV.bool false))) [])))) ∧ (((n19 == 0) = false) → (R (TV.one (AV.fz (FV.bool false))) []))))))))))))))))))))))))))))))))))))))))
theorem law18_answers_fn  {r : TV} {h : List Ob} (H : law18_answers_H (fun r' h' => r' = r ∧ h' = h) ) : Fn Tryz.prog 49 [] [] r h :=
 Fn.by_tr (M := (modeOf [] [])) (lv := law18_answers_lv) (own := none) (F := Tryz.f49) (by kernel_rfl) (by kernel_rfl) (by first | decide | simp) (fun _ _ h => h) (by kernel_rfl) H
end
section
set_option maxRecDepth 20000 in
theorem rrules_loop0 (mk : Int) (hmk0 : 0 < mk) (hmk : I64 mk) (p q : Sx) (ps : List Sx) (hpl : ps.length ≤ 9000) (hp : ∀ y ∈ p :: q :: ps, y.ok ∧ y.snd = true) (lk : Int) (lt : ByteArray) (lb : Bool) (ll : List Int) (ls : List Sx) (la : Int) (lm lu : List Int) (hlo : (Sx.mk lk lt lb ll ls la lm lu).ok)
  (R : TV → List Ob → Prop) (T : Sx × Int) (hRz : ∀ e, T = (Sx.zero, e) → R (zO e) zH) (hRv : ∀ Z, T = (Z, 0) → R (sxeT Z 0) []) : ∀ (d j : Nat), j + d = ls.length →
  T = (if litB (ls.drop j) = true then (match clausesV 0 mk ps with | some cs => finR 0 mk ([symS tCase 0 mk, symS tX 0 mk, .mk lk lt lb ll ls la lm lu] ++ cs) | none => (Sx.zero, 7)) else (Sx.zero, 7)) →
  ref17_RulesO_L0 R mk j (Sx.rows (p :: q :: ps)) lk lt lb (ints .u32 ll) la (ints .i64 lm) (ints .i64 lu) (Sx.rows ls)
 | 0, j, hj, hT => by
  have hlen := srows_len ls
  rw [List.drop_of_length_le (by omega), if_pos (show litB [] = true from rfl)] at hT
  have h1 := rrules_loop1 mk hmk0 hmk (p :: q :: ps) (by simp only [List.length_cons]; omega) hp R T hRz hRv ps.length 2 [symS tCase 0 mk, symS tX 0 mk, .mk lk lt lb ll ls la lm lu] (by simp only [List.length_cons]; omega) (by simp) (fun x hx => by
   simp only [List.mem_cons, List.not_mem_nil, or_false] at hx
   rcases hx with rfl | rfl | rfl
   ·exact symS_ok (by decide) ⟨by decide, by decide⟩ hmk
   ·exact symS_ok (by decide) ⟨by decide, by decide⟩ hmk
   ·exact hlo) hT
  generalize Sx.rows (p :: q :: ps) = prs at *
  simp only [Sx.rows, symS_row] at h1
  simp only [Sx.row] at h1
  refine ref17_RulesO_l0 ?_
  unfold ref17_RulesO_R0
  rw [hlen, dec_t, dec_f]
  exact ⟨fun h => by omega, fun _ => ⟨_, _, _, _, _, _, _, _, rSym_ok mk _ hmk0, _, _, _, _, _, _, _, _, rSym_ok mk _ hmk0, h1⟩⟩
 | d + 1, j, hj, hT => by
  have hj1 : j < ls.length := by omega
  have hlen := srows_len ls
  have hr := srow_at (List.getElem?_eq_getElem hj1)
  have hdr : ls.drop j = ls[j] :: ls.drop (j + 1) := List.drop_eq_getElem_cons hj1
  rw [hdr] at hT
  have e : IntKind.wrap .i64 ((j : Int) + 1) = ((j + 1 : Nat) : Int) := by
   unfold Sx.ok at hlo
   exact w64 (by omega) (by omega)
  have ih := rrules_loop0 mk hmk0 hmk p q ps hpl hp lk lt lb ll ls la lm lu hlo R T hRz hRv d (j + 1) (by omega)
  have hT1 : ls[j].kind = 4 → _ := fun h => ih (by
   rw [hT, show litB (ls[j] :: ls.drop (j + 1)) = litB (ls.drop (j + 1)) by unfold litB; rw [List.all_cons, decide_eq_true h, Bool.true_and]])
  have hT2 : ls[j].kind ≠ 4 → R (zO 7) zH := fun h => hRz 7 (by
   rw [hT, show litB (ls[j] :: ls.drop (j + 1)) = false by unfold litB; rw [List.all_cons, decide_eq_false h, Bool.false_and]]
   rfl)
  clear hT ih
  generalize ls[j] = y at *
  obtain ⟨k, t, b, l, xs, a', m, u⟩ := y
  simp only [Sx.kind] at hT1 hT2
  simp only [Sx.row] at hr
  refine ref17_RulesO_l0 ?_
  unfold ref17_RulesO_R0
  rw [hlen, dec_t, dec_f, e]
  refine ⟨fun _ => ⟨⟨by omega, by omega⟩, _, _, _, _, _, _, _, _, hr, ?_⟩, fun h => by omega⟩
  rw [bne_t, bne_f]
  exact ⟨hT2, hT1⟩
set_option maxRecDepth 20000 in
theorem rRules_H (x : Sx) (hx : x.ok) (mk : Int) (hmk : I64 mk) (R : TV → List Ob → Prop) (T : Sx × Int) (hT : rulesV 0 mk Sx.openV x = T) (hRz : ∀ e, T = (Sx.zero, e) → R (zO e) zH) (hRv : ∀ Z, T = (Z, 0) → R (sxeT Z 0) [])
  {k : Int} {t : ByteArray} {b : Bool} {l : List Int} {xs : List Sx} {a : Int} {m u : List Int} (he : x = .mk k t b l xs a m u) : ref17_RulesO_H R k t b (ints .u32 l) (Sx.rows xs) a (ints .i64 m) (ints .i64 u) mk := by
 have hs := rSound9_ok x hx
 have hz := fun (e : Int) (h : (Sx.zero, e) = T) => hRz e h.symm
 unfold rulesV at hT
 by_cases c1 : x.snd = false
 ·rw [if_pos c1] at hT
  rw [c1] at hs
  subst he
  unfold fzX at hs
  simp only [Sx.row, List.map_cons, List.map_nil] at hs
  unfold ref17_RulesO_H
  exact ⟨_, hs, fun _ => hz _ hT, fun h => (by cases h)⟩
 rw [if_neg c1] at hT
 have c1 : x.snd = true := by simpa using c1
 rw [c1] at hs
 by_cases c2 : mk < 1
 ·rw [if_pos c2] at hT
  subst he
  unfold fzX at hs
  simp only [Sx.row, List.map_cons, List.map_nil] at hs
  unfold ref17_RulesO_H
  rw [dec_t, dec_f]
  exact ⟨_, hs, fun h => (by cases h), fun _ => ⟨fun _ => hz _ hT, fun h => absurd c2 h⟩⟩
 rw [if_neg c2] at hT
 by_cases c3 : x.kind = 1
 ·rw [if_neg (by simpa using c3)] at hT
  have ho := rOpenO_ok x hx (.inl c3)
  have hoo := openV_ok hx
  have hol := oks_list hoo
  have hsub := fun y => @snd_sub x y c1
  have hlen : x.openV.list.length ≤ 8192 := sxl8 (openV_snd c1)
  have hxl : x.openV.list.length = xs.length := by
   subst he
   simp only [Sx.kind] at c3
   rw [c3, openV_t (.inl rfl)]
   simp only [Sx.list, List.length_map]
  have hxr := srows_len xs
  generalize x.openV = o at *
  obtain ⟨ok, ot, ob, ol, ox, oa, om, ou⟩ := o
  simp only [Sx.list] at hol hsub hlen hxl hT ho
  match ox, hT with
  | [], hT =>
   simp only at hT
   subst he
   unfold fzX at hs
   simp only [Sx.row, Sx.kind, List.map_cons, List.map_nil, List.length_nil] at hs c3 hxl
   unfold ref17_RulesO_H
   rw [dec_t, dec_f, hxr]
   refine ⟨_, hs, fun h => (by cases h), fun _ => ⟨fun h => absurd h c2, fun _ => ?_⟩⟩
   rw [bne_t, bne_f, dec_t, dec_f]
   exact ⟨fun h => absurd c3 h, fun _ => ⟨fun _ => hz _ hT, fun h => absurd (by omega) h⟩⟩
  | [p], hT =>
   simp only at hT
   subst he
   unfold fzX at hs
   simp only [Sx.row, Sx.kind, List.map_cons, List.map_nil, List.length_cons, List.length_nil] at hs c3 hxl
   unfold ref17_RulesO_H
   rw [dec_t, dec_f, hxr]
   refine ⟨_, hs, fun h => (by cases h), fun _ => ⟨fun h => absurd h c2, fun _ => ?_⟩⟩
   rw [bne_t, bne_f, dec_t, dec_f]
   exact ⟨fun h => absurd c3 h, fun _ => ⟨fun _ => hz _ hT, fun h => absurd (by omega) h⟩⟩
  | p :: q :: ps, hT =>
   simp only at hT
   have hqo := soks_mem hol q (by simp)
   have hqs := hsub q (by simp)
   have hps : ∀ y ∈ p :: q :: ps, y.ok ∧ y.snd = true := fun y hy => ⟨soks_mem hol y hy, hsub y hy⟩
   have hr : (Sx.rows (p :: q :: ps))[(Int.toNat 1)]? = some q.row := by simp [Sx.rows]
   have hl2 : ((0 : Int) ≤ 1) ∧ ((1 : Int) < (((Sx.rows (p :: q :: ps)).length : Nat) : Int)) := by rw [srows_len]; simp; omega
   have hl3 : ¬ ((xs.length : Int) < 2) := by rw [← hxl]; simp; omega
   by_cases c4 : q.kind = 1
   ·rw [if_neg (by simpa using c4)] at hT
    have hq := rOpenO_ok q hqo (.inl c4)
    have hqq := openV_ok hqo
    generalize hqv : q.openV = qo at *
    obtain ⟨lk, lt, lb, ll, ls, la, lm, lu⟩ := qo
    simp only [Sx.list] at hT hq
    have hcom : T = (if litB (ls.drop 0) = true then (match clausesV 0 mk ps with | some cs => finR 0 mk ([symS tCase 0 mk, symS tX 0 mk, .mk lk lt lb ll ls la lm lu] ++ cs) | none => (Sx.zero, 7)) else (Sx.zero, 7)) := by
     rw [← hT, List.drop_zero]
     by_cases hlb : litB ls = true
     ·rw [if_pos hlb]
      refine Eq.trans (if_neg (show ¬ (litB ls = false) from fun h => by rw [hlb] at h; cases h)) ?_
      cases clausesV 0 mk ps with
      | none => rfl
      | some cs => rfl
     ·rw [if_neg hlb]
      exact if_pos (Bool.eq_false_iff.2 hlb)
    have hL := rrules_loop0 mk (by omega) hmk p q ps (by simp at hlen; omega) hps lk lt lb ll ls la lm lu hqq R T hRz hRv ls.length 0 (by omega) hcom
    clear hcom hT hsub hps hqv
    generalize hpq : Sx.rows (p :: q :: ps) = prs at *
    have hpq2 : obF (p :: q :: ps) = .f 0 8 prs := by rw [← hpq]
    rw [hpq2] at ho
    clear hpq hpq2
    subst he
    obtain ⟨k2, t2, b2, l2, xs2, a2, m2, u2⟩ := q
    unfold fzX at hs ho hq
    simp only [Sx.row, Sx.kind, List.map_cons, List.map_nil] at hs ho hq hr c3 c4
    unfold ref17_RulesO_H
    rw [dec_t, dec_f, hxr]
    refine ⟨_, hs, fun h => (by cases h), fun _ => ⟨fun h => absurd h c2, fun _ => ?_⟩⟩
    rw [bne_t, bne_f, dec_t, dec_f]
    refine ⟨fun h => absurd c3 h, fun _ => ⟨fun h => absurd h hl3, fun _ => ⟨_, _, _, _, _, _, _, _, ho, hl2, _, _, _, _, _, _, _, _, hr, ?_⟩⟩⟩
    rw [bne_t, bne_f]
    exact ⟨fun h => absurd c4 h, fun _ => ⟨hl2, _, _, _, _, _, _, _, _, hr, _, _, _, _, _, _, _, _, hq, hL⟩⟩
   ·rw [if_pos c4] at hT
    generalize hpq : Sx.rows (p :: q :: ps) = prs at *
    have hpq2 : obF (p :: q :: ps) = .f 0 8 prs := by rw [← hpq]
    rw [hpq2] at ho
    clear hpq hpq2 hsub hps
    subst he
    obtain ⟨k2, t2, b2, l2, xs2, a2, m2, u2⟩ := q
    unfold fzX at hs ho
    simp only [Sx.row, Sx.kind, List.map_cons, List.map_nil] at hs ho hr c3 c4
    unfold ref17_RulesO_H
    rw [dec_t, dec_f, hxr]
    refine ⟨_, hs, fun h => (by cases h), fun _ => ⟨fun h => absurd h c2, fun _ => ?_⟩⟩
    rw [bne_t, bne_f, dec_t, dec_f]
    refine ⟨fun h => absurd c3 h, fun _ => ⟨fun h => absurd h hl3, fun _ => ⟨_, _, _, _, _, _, _, _, ho, hl2, _, _, _, _, _, _, _, _, hr, ?_⟩⟩⟩
    rw [bne_t, bne_f]
    exact ⟨fun _ => hz _ hT, fun h => absurd h c4⟩
 ·rw [if_pos c3] at hT
  subst he
  unfold fzX at hs
  simp only [Sx.row, Sx.kind, List.map_cons, List.map_nil] at hs c3
  unfold ref17_RulesO_H
  rw [dec_t, dec_f]
  refine ⟨_, hs, fun h => (by cases h), fun _ => ⟨fun h => absurd h c2, fun _ => ?_⟩⟩
  rw [bne_t, bne_f]
  exact ⟨fun _ => hz _ hT, fun h => absurd h c3⟩
theorem rRules_ok (x : Sx) (hx : x.ok) (mk : Int) (hmk : I64 mk) : Fn Tryz.prog 52 [fzX x, fzI .i64 mk] [] (sxeT (rulesV 0 mk Sx.openV x).1 (rulesV 0 mk Sx.openV x).2) [] := by
 have H := fun R => rRules_H x hx mk hmk R _ rfl
 generalize rulesV 0 mk Sx.openV x = T at *
 obtain ⟨k, t, b, l, xs, a, m, u⟩ := x
 unfold fzX
 simp only [Sx.row, List.map_cons, List.map_nil]
 refine ref17_RulesO_fc _ _ _ _ _ _ _ _ _ (H _ (fun e h => ?_) (fun Z h => ?_) rfl)
 ·rw [h, sxeT_zero]; exact ⟨rfl, trivial, rfl⟩
 ·rw [h]
  obtain ⟨k, t, b, l, xs, a, m, u⟩ := Z
  unfold sxeT
  refine ⟨?_, trivial, ?_⟩
  ·simp only [coolT, List.map_cons, List.map_nil, Sx.row, coolA]
  ·simp only [lowT, Sx.row, List.map_cons, List.map_nil, List.all_cons, List.all_nil, lowA]; rfl
theorem answers18_ok : Fn Tryz.prog 49 [] [] (fzB true) [] := by
 have hx0 : (lstS 0 [Sx.mk 4 (ByteArray.mk #[107]) false [] [] 0 [] [], lstS 0 []]).ok := lstS_ok ⟨by decide, by decide⟩ (by decide) (fun y hy => by
  simp only [List.mem_cons, List.not_mem_nil, or_false] at hy
  rcases hy with rfl | rfl
  ·unfold Sx.ok
   exact ⟨⟨by decide, by decide⟩, by decide, Lim.nil _, by simp, by simp, by simp only [Sx.oks], ⟨by decide, by decide⟩, all64_nil, all64_nil⟩
  ·exact lstS_ok ⟨by decide, by decide⟩ (by decide) (by simp))
 have h := pRules_ok _ hx0 3 ⟨by decide, by decide⟩
 have e : rulesV (lstS 0 [Sx.mk 4 (ByteArray.mk #[107]) false [] [] 0 [] [], lstS 0 []]).at0 3 (fun q => lstS (lstS 0 [Sx.mk 4 (ByteArray.mk #[107]) false [] [] 0 [] [], lstS 0 []]).at0 q.openV.list) (lstS 0 [Sx.mk 4 (ByteArray.mk #[107]) false [] [] 0 [] [], lstS 0 []]) = (rulesO 0 3 (lstS 0 []) [], 0) := by
  have c1 : (lstS 0 [Sx.mk 4 (ByteArray.mk #[107]) false [] [] 0 [] [], lstS 0 []]).snd = true := by decide +kernel
  have c2 : (rulesO 0 3 (lstS 0 []) []).snd = true := by decide +kernel
  unfold rulesV
  rw [c1]
  simp only [lstS, Sx.at0, Sx.kind, Sx.openV, Sx.list] at c2 ⊢
  rw [if_neg (by decide), if_neg (by decide), if_neg (by decide)]
  simp only [if_pos, true_or, List.map_cons, List.map_nil, jn1, Sx.withW, Sx.ms, Sx.us, Sx.kind]
  rw [if_neg (by decide)]
  show (if (rulesO 0 3 (Sx.mk 1 (ByteArray.mk #[]) false [] [] 0 [] []) []).snd = true then (rulesO 0 3 (Sx.mk 1 (ByteArray.mk #[]) false [] [] 0 [] []) [], (0 : Int)) else (Sx.zero, 6)) = _
  rw [if_pos c2]
 rw [e] at h
 unfold fzX sxeT rulesO at h
 simp only [lstS, symS, Sx.row, Sx.rows, List.map_cons, List.map_nil] at h
 refine law18_answers_fn ?_
 unfold law18_answers_H
 refine ⟨_, _, _, _, _, _, _, _, rSym0_ok _, _, _, _, _, _, _, _, _, rList_ok _, _, _, _, _, _, _, _, _, rList_ok _, _, _, _, _, _, _, _, _, _, h, fun _ => ⟨fun _ => ⟨by omega, _, _, _, _, _, _, _, _, rfl, ?_⟩, fun h => absurd h (by decide)⟩, fun h => absurd h (by decide)⟩
 have hb : (ByteArray.toList tLam == ByteArray.toList (ByteArray.mk #[37, 108, 97, 109, 98, 100, 97])) = true := by decide +kernel
 exact ⟨by rw [hb], rfl⟩
mutual
def Sx.lite18 : Sx → Int → Bool
 | .mk _ _ _ _ xs _ m u, d => decide (d ≤ 70) && (decide (xs.length ≤ 100) && (decide (m.length ≤ 300) && (decide (u.length ≤ 300) && Sx.liteL18 xs (d + 1))))
def Sx.liteL18 : List Sx → Int → Bool
 | [], _ => true
 | x :: xs, d => x.lite18 d && Sx.liteL18 xs d
end
theorem lite18_loop (k : Int) (t : ByteArray) (n : Bool) (l : List Int) (a : Int) (m u : List Int) (xs : List Sx) (hl : xs.length ≤ 100) (dp : Int) (hd0 : 0 ≤ dp) (hd1 : dp ≤ 70) (hp : ∀ x ∈ xs, Fn Tryz.prog 50 [fzX x, fzI .i64 (dp + 1)] [] (fzB (x.lite18 (dp + 1))) [])
  (R : TV → List Ob → Prop) (hR : R (fzB (Sx.liteL18 xs (dp + 1))) []) : ∀ (d j : Nat), j + d = xs.length → Sx.liteL18 xs (dp + 1) = Sx.liteL18 (xs.drop j) (dp + 1) → law18_light_L0 R k t n (ints .u32 l) (Sx.rows xs) a (ints .i64 m) (ints .i64 u) dp j
 | 0, j, hj, h => by
  refine law18_light_l0 ?_
  unfold law18_light_R0
  rw [srows_len, dec_t, dec_f]
  refine ⟨fun h => by omega, fun _ => ?_⟩
  rw [h, List.drop_of_length_le (by omega)] at hR
  simpa [Sx.liteL18] using hR
 | d + 1, j, hj, h => by
  have hF := hp xs[j] (List.getElem_mem _)
  have hr := srow_at (List.getElem?_eq_getElem (show j < xs.length by omega))
  have hd : xs.drop j = xs[j] :: xs.drop (j + 1) := List.drop_eq_getElem_cons (by omega)
  rw [hd] at h
  simp only [Sx.liteL18] at h
  generalize xs[j] = y at hF hr h
  obtain ⟨k', t', n', l', ys, a', m', u'⟩ := y
  unfold fzX at hF
  simp only [Sx.row, List.map_cons, List.map_nil] at hF hr
  refine law18_light_l0 ?_
  unfold law18_light_R0
  have e : IntKind.wrap .i64 ((j : Int) + 1) = ((j + 1 : Nat) : Int) := w64 (by omega) (by omega)
  have e2 : IntKind.wrap .i64 (dp + 1) = dp + 1 := w64 (by omega) (by omega)
  rw [srows_len, dec_t, dec_f, e, e2]
  refine ⟨fun _ => ⟨by omega, _, _, _, _, _, _, _, _, hr, _, hF, ?_⟩, fun h => by omega⟩
  rw [not_t, not_f]
  refine ⟨fun h1 => ?_, fun h1 => ?_⟩
  ·rw [h, h1] at hR; simpa using hR
  ·exact lite18_loop k t n l a m u xs hl dp hd0 hd1 hp R hR d (j + 1) (by omega) (by rw [h, h1, Bool.true_and])
mutual
theorem light_ok18 : ∀ (x : Sx) (dp : Int), x.ok → 0 ≤ dp → dp ≤ 1000 → Fn Tryz.prog 50 [fzX x, fzI .i64 dp] [] (fzB (x.lite18 dp)) []
 | .mk k t n l xs a m u, dp, hok, h0, h1 => by
  unfold Sx.ok at hok
  obtain ⟨_, _, _, _, hxl, hxs, _⟩ := hok
  unfold fzX
  simp only [Sx.row, List.map_cons, List.map_nil]
  refine law18_light_fn _ _ _ _ _ _ _ _ _ ?_
  unfold law18_light_H Sx.lite18
  rw [srows_len, ints_len, ints_len, dec_t, dec_f, dec_t, dec_f, dec_t, dec_f, dec_t, dec_f]
  refine ⟨fun h => ?_, fun h => ⟨fun h2 => ?_, fun h2 => ⟨fun h3 => ?_, fun h3 => ⟨fun h4 => ?_, fun h4 => ?_⟩⟩⟩⟩
  ·rw [decide_eq_false (show ¬ dp ≤ 70 by omega)]; exact ⟨rfl, rfl⟩
  ·rw [decide_eq_false (show ¬ xs.length ≤ 100 by omega), Bool.false_and, Bool.and_false]; exact ⟨rfl, rfl⟩
  ·rw [decide_eq_false (show ¬ m.length ≤ 300 by omega), Bool.false_and, Bool.and_false, Bool.and_false]; exact ⟨rfl, rfl⟩
  ·rw [decide_eq_false (show ¬ u.length ≤ 300 by omega), Bool.false_and, Bool.and_false, Bool.and_false, Bool.and_false]; exact ⟨rfl, rfl⟩
  ·have hall := light_all18 xs (dp + 1) hxs (by omega) (by omega)
   rw [decide_eq_true (show dp ≤ 70 by omega), decide_eq_true (show xs.length ≤ 100 by omega), decide_eq_true (show m.length ≤ 300 by omega), decide_eq_true (show u.length ≤ 300 by omega)]
   exact lite18_loop k t n l a m u xs (by omega) dp h0 (by omega) hall _ ⟨rfl, rfl⟩ xs.length 0 (by omega) rfl
theorem light_all18 : ∀ (xs : List Sx) (dp : Int), Sx.oks xs → 0 ≤ dp → dp ≤ 1000 → ∀ x ∈ xs, Fn Tryz.prog 50 [fzX x, fzI .i64 dp] [] (fzB (x.lite18 dp)) []
 | [], dp, hok, h0, h1 => fun x hx => by cases hx
 | y :: xs, dp, hok, h0, h1 => fun x hx => by
  unfold Sx.oks at hok
  have h2 := light_ok18 y dp hok.1 h0 h1
  have h3 := light_all18 xs dp hok.2 h0 h1
  rcases List.mem_cons.1 hx with rfl | hx
  ·exact h2
  ·exact h3 x hx
end
end
section
def law18_RulesMake_lv : List Nat → Keep := lvOf []
def law18_RulesMake_H (R : TV → List Ob → Prop) (x0 : Int) (x1 : ByteArray) (x2 : Bool) (x3 : LL) (x4 : LL) (x5 : Int) (x6 : LL) (x7 : LL) (mark : Int) : Prop :=
 (∃ b8 : Bool, ((Fn Tryz.prog 49 [] [] (TV.one (AV.fz (FV.bool b8))) []) ∧ ((((Bool.not b8) = true) → (∃ b9 : Bool, ((Fn Tryz.prog 49 [] [] (TV.one (AV.fz (FV.bool b9))) []) ∧ (R (TV.one (AV.fz (FV.bool b9))) [])))) ∧ (((Bool.not b8) = false) → (∃ b10 : Bool, ((Fn Tryz.prog 50 [(TV.agg [(AV.fz (FV.int .i64 x0)), (AV.fz (FV.str x1)), (AV.fz (FV.bool x2)), (AV.fz (FV.sl 1 x3)), (AV.fz (FV.sl 8 x4)), (AV.fz (FV.int .i64 x5)), (AV.fz (FV.sl 1 x6)), (AV.fz (FV.sl 1 x7))]), (TV.one (AV.fz (FV.int .i64 1)))] [] (TV.one (AV.fz (FV.bool b10))) []) ∧ ((((Bool.not b10) = true) → (∃ b11 : Bool, ((Fn Tryz.prog 49 [] [] (TV.one (AV.fz (FV.bool b11))) []) ∧ (R (TV.one (AV.fz (FV.bool b11))) [])))) ∧ (((Bool.not b10) = false) → (∃ n8 : Int, (∃ s3 : ByteArray, (∃ b12 : Bool, (∃ es12 : LL, (∃ es13 : LL, (∃ n9 : Int, (∃ es14 : LL, (∃ es15 : LL, ((Fn Tryz.prog 18 [(TV.agg [(AV.fz (FV.int .i64 x0)), (AV.fz (FV.str x1)), (AV.fz (FV.bool x2)), (AV.fz (FV.sl 1 x3)), (AV.fz (FV.sl 8 x4)), (AV.fz (FV.int .i64 x5)), (AV.fz (FV.sl 1 x6)), (AV.fz (FV.sl 1 x7))])] [] (TV.agg [(AV.fz (FV.int .i64 n8)), (AV.fz (FV.str s3)), (AV.fz (FV.bool b12)), (AV.fz (FV.sl 1 es12)), (AV.fz (FV.sl 8 es13)), (AV.fz (FV.int .i64 n9)), (AV.fz (FV.sl 1 es14)), (AV.fz (FV.sl 1 es15))]) []) ∧ (∃ n10 : Int, (∃ s4 : ByteArray, (∃ b13 : Bool, (∃ es16 : LL, (∃ es17 : LL, (∃ n11 : Int, (∃ es18 : LL, (∃ es19 : LL, (∃ n12 : Int, ((Fn Tryz.prog 51 [(TV.agg [(AV.fz (FV.int .i64 n8)), (AV.fz (FV.str s3)), (AV.fz (FV.bool b12)), (AV.fz (FV.sl 1 es12)), (AV.fz (FV.sl 8 es13)), (AV.fz (FV.int .i64 n9)), (AV.fz (FV.sl 1 es14)), (AV.fz (FV.sl 1 es15))]), (TV.one (AV.fz (FV.int .i64 mark)))] [] (TV.tup [(true, [(AV.fz (FV.int .i64 n10)), (AV.fz (FV.str s4)), (AV.fz (FV.bool b13)), (AV.fz (FV.sl 1 es16)), (AV.fz (FV.sl 8 es17)), (AV.fz (FV.int .i64 n11)), (AV.fz (FV.sl 1 es18)), (AV.fz (FV.sl 1 es19))]), (false, [(AV.fz (FV.int .i64 n12))])]) []) ∧ (∃ n13 : Int, (∃ s5 : ByteArray, (∃ b14 : Bool, (∃ es20 : LL, (∃ es21 : LL, (∃ n14 : Int, (∃ es22 : LL, (∃ es23 : LL, (∃ n15 : Int, ((Fn Tryz.prog 52 [(TV.agg [(AV.fz (FV.int .i64 x0)), (AV.fz (FV.str x1)), (AV.fz (FV.bool x2)), (AV.fz (FV.sl 1 x3)), (AV.fz (FV.sl 8 x4)), (AV.fz (FV.int .i64 x5)), (AV.fz (FV.sl 1 x6)), (AV.fz (FV.sl 1 x7))]), (TV.one (AV.fz (FV.int .i64 mark)))] [] (TV.tup [(true, [(AV.fz (FV.int .i64 n13)), (AV.fz (FV.str s5)), (AV.fz (FV.bool b14)), (AV.fz (FV.sl 1 es20)), (AV.fz (FV.sl 8 es21)), (AV.fz (FV.int .i64 n14)), (AV.fz (FV.sl 1 es22)), (AV.fz (FV.sl 1 es23))]), (false, [(AV.fz (FV.int .i64 n15))])]) []) ∧ ((((n12 == n15) = true) → ((((n12 != 0) = true) → (R (TV.one (AV.fz (FV.bool true))) [])) ∧ (((n12 != 0) = false) → (∃ b15 : Bool, ((Fn Tryz.prog 29 [(TV.agg [(AV.fz (FV.int .i64 n10)), (AV.fz (FV.str s4)), (AV.fz (FV.bool b13)), (AV.fz (FV.sl 1 es16)), (AV.fz (FV.sl 8 es17)), (AV.fz (FV.int .i64 n11)), (AV.fz (FV.sl 1 es18)), (AV.fz (FV.sl 1 es19))]), (TV.agg [(AV.fz (FV.int .i64 n13)), (AV.fz (FV.str s5)), (AV.fz (FV.bool b14)), (AV.fz (FV.sl 1 es20)), (AV.fz (FV.sl 8 es21)), (AV.fz (FV.int .i64 n14)), (AV.fz (FV.sl 1 es22)), (AV.fz (FV.sl 1 es23))])] [] (TV.one (AV.fz (FV.bool b15))) []) ∧ (R (TV.one (AV.fz (FV.bool b15))) [])))))) ∧ (((n12 == n15) = false) → (R (TV.one (AV.fz (FV.bool false))) []))))))))))))))))))))))))))))))))))))))))
theorem law18_RulesMake_fn (x0 : Int) (x1 : ByteArray) (x2 : Bool) (x3 : LL) (x4 : LL) (x5 : Int) (x6 : LL) (x7 : LL) (mark : Int) {r : TV} {h : List Ob} (H : law18_RulesMake_H (fun r' h' => r' = r ∧ h' = h) x0 x1 x2 x3 x4 x5 x6 x7 mark) : Fn Tryz.prog 12 [(TV.agg [(AV.fz (FV.int .i64 x0)), (AV.fz (FV.str x1)), (AV.fz (FV.bool x2)), (AV.fz (FV.sl 1 x3)), (AV.fz (FV.sl 8 x4)), (AV.fz (FV.int .i64 x5)), (AV.fz (FV.sl 1 x6)), (AV.fz (FV.sl 1 x7))]), (TV.one (AV.fz (FV.int .i64 mark)))] [] r h :=
 Fn.by_tr (M := (modeOf [] [])) (lv := law18_RulesMake_lv) (own := none) (F := Tryz.f12) (by kernel_rfl) (by kernel_rfl) (by first | decide | simp) (fun _ _ h => h) (by kernel_rfl) H
end
section
theorem rulesV_ok {x : Sx} (hx : x.ok) {a m : Int} (ha : I64 a) (hm : I64 m) {lit : Sx → Sx} (hlit : ∀ q, q.ok → (lit q).ok) : (rulesV a m lit x).1.ok := by
 unfold rulesV
 split
 ·exact zero_ok
 ·split
  ·exact zero_ok
  ·split
   ·exact zero_ok
   ·rename_i hs _ _
    have hs : x.snd = true := by simpa using hs
    have hlen : x.openV.list.length ≤ 8192 := sxl8 (openV_snd hs)
    have hoks := oks_list (openV_ok hx)
    split
    ·rename_i p q ps hl
     rw [hl] at hoks hlen
     simp only [List.length_cons] at hlen
     split
     ·exact zero_ok
     ·split
      ·exact zero_ok
      ·split
       ·rename_i cs hc
        obtain ⟨h1, h2⟩ := clausesV_ok ha hm (fun y hy => soks_mem hoks y (by simp [hy])) hc
        split
        ·refine rulesO_ok ha hm (by simp only [List.length_cons]; omega) (fun y hy => ?_)
         simp only [List.mem_cons] at hy
         rcases hy with rfl | rfl | rfl | hy
         ·exact symS_ok (by decide) ha hm
         ·exact symS_ok (by decide) ha hm
         ·exact hlit q (soks_mem hoks q (by simp))
         ·exact h2 y hy
        ·exact zero_ok
       ·exact zero_ok
    ·exact zero_ok
theorem law_RulesMake (xs : List TV) (h : TyAll Tryz.prog [28, 3] xs) (hb : bulkA xs ≤ 1048576) : Fn Tryz.prog 12 xs [] (.one (.fz (.bool true))) [] := by
 cases h with
 | cons h1 h =>
 cases h with
 | cons h2 h =>
 cases h
 simp only [bulkA] at hb
 obtain ⟨x, rfl, hx, _⟩ := tyV_Sx h1 (by omega)
 obtain ⟨mk, rfl, hm0, hm1⟩ := tyV_int h2 Tryz.underlying3
 have hmk : I64 mk := ⟨hm0, hm1⟩
 have c1 := light_ok18 x 1 hx (by omega) (by omega)
 have c2 := rOwn_ok x hx
 have c3 := pRules_ok x hx mk hmk
 have c4 := rRules_ok x hx mk hmk
 obtain ⟨e1, e2⟩ := rulesV_same x.at0 mk x
 have o1 := rulesV_ok hx (ok_at hx) hmk (lit := fun q => lstS x.at0 q.openV.list) (fun q hq => lstS_ok (ok_at hx) (ok_len (openV_ok hq)) (fun y hy => soks_mem (oks_list (openV_ok hq)) y hy))
 have o2 := rulesV_ok hx (a := 0) ⟨by decide, by decide⟩ hmk (lit := Sx.openV) (fun q hq => openV_ok hq)
 have c5 := rSame9_ok _ _ o1 o2
 generalize rulesV x.at0 mk (fun q => lstS x.at0 q.openV.list) x = Y at *
 generalize rulesV 0 mk Sx.openV x = Z at *
 obtain ⟨y, ye⟩ := Y
 obtain ⟨z, ze⟩ := Z
 simp only at e1 e2 c3 c4 c5
 subst e1
 generalize x.lite18 1 = b0 at *
 generalize sameB y z = b1 at *
 obtain ⟨k, t, n, l, ys, a, m, s⟩ := x
 obtain ⟨yk, yt, yn, yl, yx, ya, ym, ys2⟩ := y
 obtain ⟨zk, zt, zn, zl, zx, za, zm, zs⟩ := z
 unfold fzX at *
 unfold sxeT at *
 simp only [Sx.row, List.map_cons, List.map_nil] at c1 c2 c3 c4 c5 ⊢
 refine law18_RulesMake_fn _ _ _ _ _ _ _ _ _ ?_
 unfold law18_RulesMake_H
 refine ⟨_, answers18_ok, fun h => (by cases h), fun _ => ⟨_, c1, fun _ => ⟨_, answers18_ok, rfl, rfl⟩, fun _ => ⟨_, _, _, _, _, _, _, _, c2, _, _, _, _, _, _, _, _, _, c3, _, _, _, _, _, _, _, _, _, c4, fun _ => ?_, fun h => absurd h (by simp)⟩⟩⟩
 rw [bne_t, bne_f]
 refine ⟨fun _ => ⟨rfl, rfl⟩, fun h => ⟨_, c5, ?_⟩⟩
 rw [e2 h]
 exact ⟨rfl, rfl⟩
end
end Go.Proofs.YtljpbicmlcjpcaaGreatDoor.Ev
end
section
set_option linter.unusedVariables false
namespace Go.Proofs.YtljpbicmlcjpcaaGreatDoor.rulesMake
open Go.ChangeShapes Go.WideShapes Go.ChangeAt Go.RowKit Go.Joins
open Go.Proofs.YtljpbicmlcjpcaaGreatDoor.Ev (Ty TyAll TabAt Glob tabs closedB openedAll trodAll_below tabAt_ints_of tabAt_ifc_of tabAt_flat_of law_RulesMake returnsIn_upto witness_upto)
theorem own : ownKnob Tryz.prog.godebug = none := by kernel_rfl
theorem laidOut : laidOutB Tryz.prog = true := by kernel_rfl
set_option maxRecDepth 100000 in
theorem door_met (os : Os) (args : Array Value) : laidMetH Tryz.prog Rows.rulesMakeUptoRow.laid ((World.laidAll Tryz.prog os Rows.rulesMakeUptoRow.laid).forCall (fun _ _ => 0) ⟨#[], args, []⟩).memory :=
 Eq.mp (show laidMet Tryz.prog Rows.rulesMakeUptoRow.laid ((World.laidAll Tryz.prog os Rows.rulesMakeUptoRow.laid).forCall (fun _ _ => 0) ⟨#[], args, []⟩).memory = laidMetH Tryz.prog Rows.rulesMakeUptoRow.laid ((World.laidAll Tryz.prog os Rows.rulesMakeUptoRow.laid).forCall (fun _ _ => 0) ⟨#[], args, []⟩).memory by kernel_rfl) (laidMet_laidAll (os := os) args (by kernel_rfl) (by kernel_rfl))
set_option maxRecDepth 100000 in
theorem glob {W : World} (hL : laidMetH Tryz.prog Rows.rulesMakeUptoRow.laid W) : Glob W := by
 have hM : laidMet Tryz.prog Rows.rulesMakeUptoRow.laid W := Eq.mp (by kernel_rfl) hL
 intro x hx
 simp only [tabs, List.mem_cons, List.mem_nil_iff, or_false] at hx
 rcases hx with rfl | rfl | rfl | rfl | rfl | rfl
 ·exact tabAt_flat_of (n := "unicode/utf8.first") (d := Rows.laid_unicode_utf8_first) (fs := (List.range 256).map fun c => Go.Proofs.YtljpbicmlcjpcaaGreatDoor.Ev.FV.int .u8 ((Go.Lib.firstT c : Nat) : Int)) (m := 8) hM (by kernel_rfl) (List.mem_of_getElem? (i := 6) (by kernel_rfl)) (g := 0) (t := 193) (by kernel_rfl) (by kernel_rfl) (by kernel_rfl)
 ·exact tabAt_flat_of (n := "unicode/utf8.acceptRanges") (d := Rows.laid_unicode_utf8_acceptRanges) (fs := ((List.range 16).map fun i => [Go.Proofs.YtljpbicmlcjpcaaGreatDoor.Ev.FV.int .u8 ((Go.Lib.accLo i : Nat) : Int), Go.Proofs.YtljpbicmlcjpcaaGreatDoor.Ev.FV.int .u8 ((Go.Lib.accHi i : Nat) : Int)]).flatten) (m := 8) hM (by kernel_rfl) (List.mem_of_getElem? (i := 3) (by kernel_rfl)) (g := 1) (t := 197) (by kernel_rfl) (by kernel_rfl) (by kernel_rfl)
 ·exact tabAt_ifc_of (n := "strconv.ErrSyntax") (d := Rows.laid_strconv_ErrSyntax) hM (by kernel_rfl) (List.mem_of_getElem? (i := 5) (by kernel_rfl)) (g := 2) (t := 166) (by kernel_rfl) (by kernel_rfl) Tryz.underlying166
 ·exact tabAt_ifc_of (n := "strconv.ErrRange") (d := Rows.laid_strconv_ErrRange) hM (by kernel_rfl) (List.mem_of_getElem? (i := 4) (by kernel_rfl)) (g := 3) (t := 166) (by kernel_rfl) (by kernel_rfl) Tryz.underlying166
 ·exact tabAt_flat_of (n := "internal/strconv.uint64pow10") (d := Rows.laid_internal_strconv_uint64pow10) (fs := (List.range 20).map fun i => Go.Proofs.YtljpbicmlcjpcaaGreatDoor.Ev.FV.int .u64 ((10 ^ i : Nat) : Int)) (m := 8) hM (by kernel_rfl) (List.mem_of_getElem? (i := 2) (by kernel_rfl)) (g := 5) (t := 223) (by kernel_rfl) (by kernel_rfl) (by kernel_rfl)
 ·exact tabAt_flat_of (n := "math/bits.deBruijn64tab") (d := Rows.laid_math_bits_deBruijn64tab) (fs := [0, 1, 56, 2, 57, 49, 28, 3, 61, 58, 42, 50, 38, 29, 17, 4, 62, 47, 59, 36, 45, 43, 51, 22, 53, 39, 33, 30, 24, 18, 12, 5, 63, 55, 48, 27, 60, 41, 37, 16, 46, 35, 44, 21, 52, 32, 23, 11, 54, 26, 40, 15, 34, 20, 31, 10, 25, 14, 19, 9, 13, 8, 7, 6].map fun i => Go.Proofs.YtljpbicmlcjpcaaGreatDoor.Ev.FV.int .u8 i) (m := 8) hM (by kernel_rfl) (List.mem_of_getElem? (i := 1) (by kernel_rfl)) (g := 7) (t := 228) (by kernel_rfl) (by kernel_rfl) (by kernel_rfl)
set_option maxRecDepth 100000 in
theorem lifted (os : Os) (started : os.Started) (H : Type) (enc : TypeId × Value → H) :
  ReturnsInHanded {} Tryz.checked os 12 .any (fun w args => ((Rows.OpenSpec.upto Rows.rulesMakeSpec).pre enc Tryz.prog Tryz.f12 Rows.rulesMakeUptoRow.domain false w args ∧ laidMetH Tryz.prog Rows.rulesMakeUptoRow.laid w) ∧ sizedMet enc Tryz.prog Tryz.f12 (Rows.OpenSpec.upto Rows.rulesMakeSpec) false w args)
   (Rows.rulesMakeSpec.post enc Tryz.prog Tryz.f12 false true false false) := by
 refine returnsIn_upto (C := Tryz.checked) (X := fun w _ => laidMetH Tryz.prog Rows.rulesMakeUptoRow.laid w) (fun _ _ _ hh h => h.of_heap hh) own started (by kernel_rfl) Tryz.func12
  (witness_upto (enc := enc) (C := Tryz.checked) (os := os) (s := Rows.rulesMakeSpec) (X := fun w _ => laidMetH Tryz.prog Rows.rulesMakeUptoRow.laid w) (World.laidAll Tryz.prog os Rows.rulesMakeUptoRow.laid) #[.agg #[.int .i64 0, .string ByteArray.empty, .bool false, .slice none 0 0, .slice none 0 0, .int .i64 0, .slice none 0 0, .slice none 0 0], .int .i64 0] 8 (World.laidAll_os _ _ _) (World.shaped_of_ZipB (by kernel_rfl) (by kernel_rfl)) (by kernel_rfl) (by kernel_rfl) (by kernel_rfl) (door_met os _)) ?_
 intro W base args ds gs before hval0 hW hcnd hbk hsz0 hL
 have hsz : (DataW.weightsEach Tryz.prog (Tryz.f12.params.toList ++ Rows.rulesMakeSpec.plain.varTypes Tryz.prog) (ds ++ gs)).all (· ≤ reachBytes) = true := hsz0
 have hval : ∀ (j : Nat) t v, Tryz.f12.params[j]? = some t → args[j]? = some v → Value.okWide Tryz.prog W .any base t v := hval0
 have hW' := hW
 obtain ⟨p, q, hA0, hV, rfl, hfz, hnd⟩ := hW
 have hA : DataW.TrodAll enc Tryz.prog W 0 (fun _ => true) true Tryz.f12.params.toList args.toList ds p := hA0
 rw [Tryz.params12] at hA hval hsz
 obtain ⟨rfl, rfl⟩ := trodVars_none hV
 have hA2 := hA
 obtain ⟨v0, vs0, d0, ds0, p0, q0, hargs, rfl, rfl, h0_, r0⟩ := trodAll_cons hA2
 obtain ⟨v1, vs1, d1, ds1, p1, q1, rfl, rfl, rfl, h1_, r1⟩ := trodAll_cons r0
 obtain ⟨rfl, rfl, rfl⟩ := trodAll_nil r1
 obtain ⟨xs, h1, h2, h3, hb⟩ := openedAll (S := [28, 3, 9, 24, 4, 22, 89, 25, 26]) (ts := [28, 3]) (by kernel_rfl) (by decide) (fun j t v ht hv => hval j t v (by simpa using ht) (by simpa using hv)) hA (fun m hm => by simpa using List.all_eq_true.1 hsz m hm)
 refine ((law_RulesMake xs h1 (Nat.le_trans hb hbk)).door (glob hL) (by simpa using h2) (fun i x hx => by obtain ⟨v, hv, hr⟩ := h3 i x hx; exact ⟨v, by simpa using hv, hr⟩)).mono fun e W' ⟨he, bel⟩ => ?_
 subst he
 exact ⟨_, rfl, _, _, _, [], _, [], hW', trodAll_mk1 (shut_bool Tryz.underlying4 _), trodAll_below laidOut bel (ts := [28, 3]) (by decide +kernel) hA, rfl, bel.frame _, fun h => by cases h⟩
theorem and_tt {a b : Bool} (ha : a = true) (hb : b = true) : (a && b) = true := by rw [ha, hb]; rfl
set_option maxHeartbeats 8000000 in
theorem over : Rows.rulesMakeUptoRow.holds Tryz.pinned (Rows.OpenSpec.upto Rows.rulesMakeSpec) :=
 OpenClaim.holds_of_cond 12 Tryz.f12 rfl rfl rfl rfl rfl rfl rfl ⟨rfl, rfl, rfl, rfl, rfl⟩ rfl rfl rfl rfl rfl (by as_aux_lemma => kernel_rfl) Tryz.func12 (by unfold joinedFacts; repeat' (with_reducible refine and_tt ?_ ?_); all_goals as_aux_lemma => kernel_rfl)
  (of_decide_eq_true (by as_aux_lemma => kernel_rfl)) (by unfold Func.isWrapper; first | (rw [if_pos (by decide +kernel)]; kernel_rfl) | (rw [if_neg (by decide +kernel)]; exact ⟨rfl, rfl⟩))
  (fun os started H enc _ _ => lifted os started H enc)
theorem proved : Rows.RulesMakeUptoCardSaid :=
 Claim7.holds_tied_plain_at .later [] [.data, .data, .data, .data, .sentinel, .sentinel, .pinned] true (true, "5529037661ee0e6043dad4402c2ce233d65bf9417480a107ce49451cb39ad436") true
  over (fun _ h => by cases h) (by kernel_rfl) (fun _ h => by cases h) rulesMakeUpto_row_tie rfl ⟨rfl, rfl⟩ (by kernel_rfl) rfl
  (fun f fn hf hfn => by
   obtain rfl : f = 12 := Option.some.inj ((show Tryz.prog.funcNamed "marginalia/marginalialaw18.RulesMake" = some 12 by kernel_rfl).symm.trans hf) |>.symm
   obtain rfl : fn = Tryz.f12 := (Option.some.inj (Tryz.func12.symm.trans hfn)).symm
   exact ⟨by kernel_rfl, fun j t ht => by
    rw [Tryz.params12] at ht
    have hm : t ∈ [28, 3] := by simpa using Array.mem_of_getElem? ht
    have hall : ([28, 3].all fun u => !Tryz.prog.wantsStandIn u) = true := by kernel_rfl
    exact (show Tryz.prog.wantsStandIn t = false by simpa using List.all_eq_true.1 hall t hm)⟩)
  (by kernel_rfl)
end Go.Proofs.YtljpbicmlcjpcaaGreatDoor.rulesMake
namespace Go.Proofs.YtljpbicmlcjpcaaGreatDoor
theorem rulesMakeUpto_holds : Rows.RulesMakeUptoCardSaid := rulesMake.proved
end Go.Proofs.YtljpbicmlcjpcaaGreatDoor
end
