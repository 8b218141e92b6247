/-
  Part of a claim: definitions and lemmas that its theorem leans on, packed by wip/tools/pack.py.
-/
import Derived.Test.YtejefchehdifhaaGreatDoorZR4
import Derived.Test.YtejefchehdifhaaGreatDoorTie
import Derived.Test.YtejefchehdifhaaGreatDoorCards
import Derived.ProofKit
import Derived.ShutString
import Derived.Lay
import Derived.Stop.Joined
import Derived.SevenTiedAt
set_option linter.unusedVariables false
set_option linter.unusedSimpArgs false
section
set_option linter.unusedVariables false
set_option maxRecDepth 100000
namespace Go.Proofs.YtejefchehdifhaaGreatDoor.Ev
open Go
def prU_list_lv : List Nat → Keep := lvOf [([0, 1, 0, 1], ⟨28679, 0, [], false, false⟩)]
def prU_list_S0 (list : List (List FV)) (dotted : Bool) (i : Int) (es : List (List FV)) : St := (St.mk [(TV.one (AV.ptr 0 0 0 90)), (TV.one (AV.fz (FV.sl 6 list))), (TV.one (AV.fz (FV.bool dotted))), TV.und, TV.und, TV.und, TV.und, TV.und, TV.und, TV.und, TV.und, TV.und, (TV.one (AV.fz (FV.sl 6 list))), (TV.one (AV.fz (FV.int .i64 (((List.length list) : Nat) : Int)))), (TV.one (AV.fz (FV.int .i64 i))), TV.und, TV.und, TV.und, TV.und, TV.und, TV.und, TV.und, TV.und, TV.und, TV.und, TV.und, TV.und, TV.und, TV.und, TV.und, TV.und, TV.und, TV.und, TV.und, TV.und, TV.und, TV.und, TV.und, TV.und, TV.und, TV.und, TV.und, TV.und, TV.und, TV.und] [(Ob.g 90 [(AV.ptr 0 0 0 0), (AV.ofl 1 2)]), Ob.no, (Ob.f 5 1 es)])
def prU_list_L0 (R : TV → List Ob → Prop) (list : List (List FV)) (dotted : Bool) (i : Int) (es : List (List FV)) : Prop := LoopAt Tryz.prog (modeOf [] [(63, [(Sig.mk 1 [(false, [(AT.a (AV.fz (FV.ifc false)))])] [(OT.g 90 [(AT.a (AV.ptr 0 0 0 0)), (AT.a (AV.ofl 1 1))]), (OT.f 5 1)] 0), (Sig.mk 2 [(false, [(AT.a (AV.fz (FV.ifc false)))])] [(OT.g 90 [(AT.a (AV.ptr 0 0 0 0)), (AT.a (AV.ofl 1 2))]), OT.no, (OT.f 5 1)] 0)]), (65, [(Sig.mk 1 [(false, [(AT.k (CK.int .i64))]), (false, [(AT.a (AV.fz (FV.ifc false)))])] [(OT.g 90 [(AT.a (AV.ptr 0 0 0 0)), (AT.a (AV.ofl 1 1))]), (OT.f 5 1)] 0), (Sig.mk 2 [(false, [(AT.k (CK.int .i64))]), (false, [(AT.a (AV.fz (FV.ifc false)))])] [(OT.g 90 [(AT.a (AV.ptr 0 0 0 0)), (AT.a (AV.ofl 1 2))]), OT.no, (OT.f 5 1)] 0)]), (58, [(Sig.mk 1 [] [(OT.g 90 [(AT.a (AV.ptr 0 0 0 0)), (AT.a (AV.ofl 1 1))]), (OT.f 5 1)] 0), (Sig.mk 2 [] [(OT.g 90 [(AT.a (AV.ptr 0 0 0 0)), (AT.a (AV.ofl 1 2))]), OT.no, (OT.f 5 1)] 0)])]) prU_list_lv Tryz.f92 (some 2) R [1, 0, 1, 0] (prU_list_S0 list dotted i es)
def prU_list_R0 (R : TV → List Ob → Prop) (list : List (List FV)) (dotted : Bool) (i : Int) (es : List (List FV)) : Prop :=
  ((((decide (i < (((List.length list) : Nat) : Int))) = true) → (((0 : Int) ≤ i) ∧ (∃ n8 : Int, (∃ s2 : ByteArray, (∃ b2 : Bool, (∃ es25 : List (List FV), (∃ es26 : List (List FV), (∃ n9 : Int, (((list)[(Int.toNat i)]? = (some [(FV.int .i64 n8), (FV.str s2), (FV.bool b2), (FV.sl 1 es25), (FV.sl 6 es26), (FV.int .i64 n9)])) ∧ ((((decide ((0 : Int) < i)) = true) → (∃ es27 : List (List FV), ((Fn Tryz.prog 63 [(TV.one (AV.ptr 0 0 0 90)), (TV.one (AV.fz (FV.int .u8 32)))] [(Ob.g 90 [(AV.ptr 0 0 0 0), (AV.ofl 1 1)]), (Ob.f 5 1 es)] (TV.one (AV.fz (FV.ifc false))) [(Ob.g 90 [(AV.ptr 0 0 0 0), (AV.ofl 1 2)]), Ob.no, (Ob.f 5 1 es27)]) ∧ (((dotted = true) → ((((i == (IntKind.wrap .i64 ((((List.length list) : Nat) : Int) - 1))) = true) → (∃ es28 : List (List FV), (∃ n10 : Int, ((Fn Tryz.prog 65 [(TV.one (AV.ptr 0 0 0 90)), (TV.one (AV.fz (FV.str (ByteArray.mk #[46, 32]))))] [(Ob.g 90 [(AV.ptr 0 0 0 0), (AV.ofl 1 1)]), (Ob.f 5 1 es27)] (TV.tup [(false, [(AV.fz (FV.int .i64 n10))]), (false, [(AV.fz (FV.ifc false))])]) [(Ob.g 90 [(AV.ptr 0 0 0 0), (AV.ofl 1 2)]), Ob.no, (Ob.f 5 1 es28)]) ∧ (∃ es29 : List (List FV), ((Fn Tryz.prog 58 [(TV.one (AV.ptr 0 0 0 90)), (TV.agg [(AV.fz (FV.int .i64 n8)), (AV.fz (FV.str s2)), (AV.fz (FV.bool b2)), (AV.fz (FV.sl 1 es25)), (AV.fz (FV.sl 6 es26)), (AV.fz (FV.int .i64 n9))])] [(Ob.g 90 [(AV.ptr 0 0 0 0), (AV.ofl 1 1)]), (Ob.f 5 1 es28)] (TV.tup []) [(Ob.g 90 [(AV.ptr 0 0 0 0), (AV.ofl 1 2)]), Ob.no, (Ob.f 5 1 es29)]) ∧ (prU_list_L0 R list dotted (IntKind.wrap .i64 (i + 1)) es29))))))) ∧ (((i == (IntKind.wrap .i64 ((((List.length list) : Nat) : Int) - 1))) = false) → (∃ es30 : List (List FV), ((Fn Tryz.prog 58 [(TV.one (AV.ptr 0 0 0 90)), (TV.agg [(AV.fz (FV.int .i64 n8)), (AV.fz (FV.str s2)), (AV.fz (FV.bool b2)), (AV.fz (FV.sl 1 es25)), (AV.fz (FV.sl 6 es26)), (AV.fz (FV.int .i64 n9))])] [(Ob.g 90 [(AV.ptr 0 0 0 0), (AV.ofl 1 1)]), (Ob.f 5 1 es27)] (TV.tup []) [(Ob.g 90 [(AV.ptr 0 0 0 0), (AV.ofl 1 2)]), Ob.no, (Ob.f 5 1 es30)]) ∧ (prU_list_L0 R list dotted (IntKind.wrap .i64 (i + 1)) es30)))))) ∧ ((dotted = false) → (∃ es31 : List (List FV), ((Fn Tryz.prog 58 [(TV.one (AV.ptr 0 0 0 90)), (TV.agg [(AV.fz (FV.int .i64 n8)), (AV.fz (FV.str s2)), (AV.fz (FV.bool b2)), (AV.fz (FV.sl 1 es25)), (AV.fz (FV.sl 6 es26)), (AV.fz (FV.int .i64 n9))])] [(Ob.g 90 [(AV.ptr 0 0 0 0), (AV.ofl 1 1)]), (Ob.f 5 1 es27)] (TV.tup []) [(Ob.g 90 [(AV.ptr 0 0 0 0), (AV.ofl 1 2)]), Ob.no, (Ob.f 5 1 es31)]) ∧ (prU_list_L0 R list dotted (IntKind.wrap .i64 (i + 1)) es31)))))))) ∧ (((decide ((0 : Int) < i)) = false) → (((dotted = true) → ((((i == (IntKind.wrap .i64 ((((List.length list) : Nat) : Int) - 1))) = true) → (∃ es32 : List (List FV), (∃ n11 : Int, ((Fn Tryz.prog 65 [(TV.one (AV.ptr 0 0 0 90)), (TV.one (AV.fz (FV.str (ByteArray.mk #[46, 32]))))] [(Ob.g 90 [(AV.ptr 0 0 0 0), (AV.ofl 1 1)]), (Ob.f 5 1 es)] (TV.tup [(false, [(AV.fz (FV.int .i64 n11))]), (false, [(AV.fz (FV.ifc false))])]) [(Ob.g 90 [(AV.ptr 0 0 0 0), (AV.ofl 1 2)]), Ob.no, (Ob.f 5 1 es32)]) ∧ (∃ es33 : List (List FV), ((Fn Tryz.prog 58 [(TV.one (AV.ptr 0 0 0 90)), (TV.agg [(AV.fz (FV.int .i64 n8)), (AV.fz (FV.str s2)), (AV.fz (FV.bool b2)), (AV.fz (FV.sl 1 es25)), (AV.fz (FV.sl 6 es26)), (AV.fz (FV.int .i64 n9))])] [(Ob.g 90 [(AV.ptr 0 0 0 0), (AV.ofl 1 1)]), (Ob.f 5 1 es32)] (TV.tup []) [(Ob.g 90 [(AV.ptr 0 0 0 0), (AV.ofl 1 2)]), Ob.no, (Ob.f 5 1 es33)]) ∧ (prU_list_L0 R list dotted (IntKind.wrap .i64 (i + 1)) es33))))))) ∧ (((i == (IntKind.wrap .i64 ((((List.length list) : Nat) : Int) - 1))) = false) → (∃ es34 : List (List FV), ((Fn Tryz.prog 58 [(TV.one (AV.ptr 0 0 0 90)), (TV.agg [(AV.fz (FV.int .i64 n8)), (AV.fz (FV.str s2)), (AV.fz (FV.bool b2)), (AV.fz (FV.sl 1 es25)), (AV.fz (FV.sl 6 es26)), (AV.fz (FV.int .i64 n9))])] [(Ob.g 90 [(AV.ptr 0 0 0 0), (AV.ofl 1 1)]), (Ob.f 5 1 es)] (TV.tup []) [(Ob.g 90 [(AV.ptr 0 0 0 0), (AV.ofl 1 2)]), Ob.no, (Ob.f 5 1 es34)]) ∧ (prU_list_L0 R list dotted (IntKind.wrap .i64 (i + 1)) es34)))))) ∧ ((dotted = false) → (∃ es35 : List (List FV), ((Fn Tryz.prog 58 [(TV.one (AV.ptr 0 0 0 90)), (TV.agg [(AV.fz (FV.int .i64 n8)), (AV.fz (FV.str s2)), (AV.fz (FV.bool b2)), (AV.fz (FV.sl 1 es25)), (AV.fz (FV.sl 6 es26)), (AV.fz (FV.int .i64 n9))])] [(Ob.g 90 [(AV.ptr 0 0 0 0), (AV.ofl 1 1)]), (Ob.f 5 1 es)] (TV.tup []) [(Ob.g 90 [(AV.ptr 0 0 0 0), (AV.ofl 1 2)]), Ob.no, (Ob.f 5 1 es35)]) ∧ (prU_list_L0 R list dotted (IntKind.wrap .i64 (i + 1)) es35)))))))))))))))) ∧ (((decide (i < (((List.length list) : Nat) : Int))) = false) → (∃ es36 : List (List FV), ((Fn Tryz.prog 63 [(TV.one (AV.ptr 0 0 0 90)), (TV.one (AV.fz (FV.int .u8 41)))] [(Ob.g 90 [(AV.ptr 0 0 0 0), (AV.ofl 1 1)]), (Ob.f 5 1 es)] (TV.one (AV.fz (FV.ifc false))) [(Ob.g 90 [(AV.ptr 0 0 0 0), (AV.ofl 1 2)]), Ob.no, (Ob.f 5 1 es36)]) ∧ (R (TV.tup []) [(Ob.g 90 [(AV.ptr 0 0 0 0), (AV.ofl 1 2)]), Ob.no, (Ob.f 5 1 es36)])))))
theorem prU_list_l0 {R : TV → List Ob → Prop} {list : List (List FV)} {dotted : Bool} {i : Int} {es : List (List FV)} (h : prU_list_R0 R list dotted i es) : prU_list_L0 R list dotted i es :=
  LoopAt.by_tr (by kernel_rfl) (by kernel_rfl) h
def prU_list_H (R : TV → List Ob → Prop) (list : List (List FV)) (dotted : Bool) (o : List (List FV)) : Prop :=
  (∃ es25 : List (List FV), ((Fn Tryz.prog 63 [(TV.one (AV.ptr 0 0 0 90)), (TV.one (AV.fz (FV.int .u8 40)))] [(Ob.g 90 [(AV.ptr 0 0 0 0), (AV.ofl 1 1)]), (Ob.f 5 1 o)] (TV.one (AV.fz (FV.ifc false))) [(Ob.g 90 [(AV.ptr 0 0 0 0), (AV.ofl 1 2)]), Ob.no, (Ob.f 5 1 es25)]) ∧ (prU_list_L0 R list dotted 0 es25)))
theorem prU_list_fn (list : List (List FV)) (dotted : Bool) (o : List (List FV)) {r : TV} {h : List Ob} (H : prU_list_H (fun r' h' => r' = r ∧ Wk h' h) list dotted o) : Fn Tryz.prog 92 [(TV.one (AV.ptr 0 0 0 90)), (TV.one (AV.fz (FV.sl 6 list))), (TV.one (AV.fz (FV.bool dotted)))] [(Ob.g 90 [(AV.ptr 0 0 0 0), (AV.ofl 1 1)]), (Ob.f 5 1 o)] r h :=
  Fn.by_trW (M := (modeOf [] [(63, [(Sig.mk 1 [(false, [(AT.a (AV.fz (FV.ifc false)))])] [(OT.g 90 [(AT.a (AV.ptr 0 0 0 0)), (AT.a (AV.ofl 1 1))]), (OT.f 5 1)] 0), (Sig.mk 2 [(false, [(AT.a (AV.fz (FV.ifc false)))])] [(OT.g 90 [(AT.a (AV.ptr 0 0 0 0)), (AT.a (AV.ofl 1 2))]), OT.no, (OT.f 5 1)] 0)]), (65, [(Sig.mk 1 [(false, [(AT.k (CK.int .i64))]), (false, [(AT.a (AV.fz (FV.ifc false)))])] [(OT.g 90 [(AT.a (AV.ptr 0 0 0 0)), (AT.a (AV.ofl 1 1))]), (OT.f 5 1)] 0), (Sig.mk 2 [(false, [(AT.k (CK.int .i64))]), (false, [(AT.a (AV.fz (FV.ifc false)))])] [(OT.g 90 [(AT.a (AV.ptr 0 0 0 0)), (AT.a (AV.ofl 1 2))]), OT.no, (OT.f 5 1)] 0)]), (58, [(Sig.mk 1 [] [(OT.g 90 [(AT.a (AV.ptr 0 0 0 0)), (AT.a (AV.ofl 1 1))]), (OT.f 5 1)] 0), (Sig.mk 2 [] [(OT.g 90 [(AT.a (AV.ptr 0 0 0 0)), (AT.a (AV.ofl 1 2))]), OT.no, (OT.f 5 1)] 0)])])) (lv := prU_list_lv) (own := (some 2)) (F := Tryz.f92) (by kernel_rfl) (by kernel_rfl) (by first | decide | simp) (fun _ _ h => h) (by kernel_rfl) H
def prU_datum_lv : List Nat → Keep := lvOf []
def prU_datum_H (R : TV → List Ob → Prop) (d0 : Int) (d1 : ByteArray) (d2 : Bool) (d3 : List (List FV)) (d4 : List (List FV)) (d5 : Int) (o : List (List FV)) : Prop :=
  ((((d0 == 1) = true) → (∃ es12 : List (List FV), ((Fn Tryz.prog 92 [(TV.one (AV.ptr 0 0 0 90)), (TV.one (AV.fz (FV.sl 6 d4))), (TV.one (AV.fz (FV.bool (d0 == 2))))] [(Ob.g 90 [(AV.ptr 0 0 0 0), (AV.ofl 1 1)]), (Ob.f 5 1 o)] (TV.tup []) [(Ob.g 90 [(AV.ptr 0 0 0 0), (AV.ofl 1 2)]), Ob.no, (Ob.f 5 1 es12)]) ∧ (R (TV.tup []) [(Ob.g 90 [(AV.ptr 0 0 0 0), (AV.ofl 1 2)]), Ob.no, (Ob.f 5 1 es12)])))) ∧ (((d0 == 1) = false) → ((((d0 == 2) = true) → (∃ es13 : List (List FV), ((Fn Tryz.prog 92 [(TV.one (AV.ptr 0 0 0 90)), (TV.one (AV.fz (FV.sl 6 d4))), (TV.one (AV.fz (FV.bool (d0 == 2))))] [(Ob.g 90 [(AV.ptr 0 0 0 0), (AV.ofl 1 1)]), (Ob.f 5 1 o)] (TV.tup []) [(Ob.g 90 [(AV.ptr 0 0 0 0), (AV.ofl 1 2)]), Ob.no, (Ob.f 5 1 es13)]) ∧ (R (TV.tup []) [(Ob.g 90 [(AV.ptr 0 0 0 0), (AV.ofl 1 2)]), Ob.no, (Ob.f 5 1 es13)])))) ∧ (((d0 == 2) = false) → ((((d0 == 3) = true) → (∃ es14 : List (List FV), ((Fn Tryz.prog 63 [(TV.one (AV.ptr 0 0 0 90)), (TV.one (AV.fz (FV.int .u8 35)))] [(Ob.g 90 [(AV.ptr 0 0 0 0), (AV.ofl 1 1)]), (Ob.f 5 1 o)] (TV.one (AV.fz (FV.ifc false))) [(Ob.g 90 [(AV.ptr 0 0 0 0), (AV.ofl 1 2)]), Ob.no, (Ob.f 5 1 es14)]) ∧ (∃ es15 : List (List FV), ((Fn Tryz.prog 92 [(TV.one (AV.ptr 0 0 0 90)), (TV.one (AV.fz (FV.sl 6 d4))), (TV.one (AV.fz (FV.bool false)))] [(Ob.g 90 [(AV.ptr 0 0 0 0), (AV.ofl 1 1)]), (Ob.f 5 1 es14)] (TV.tup []) [(Ob.g 90 [(AV.ptr 0 0 0 0), (AV.ofl 1 2)]), Ob.no, (Ob.f 5 1 es15)]) ∧ (R (TV.tup []) [(Ob.g 90 [(AV.ptr 0 0 0 0), (AV.ofl 1 2)]), Ob.no, (Ob.f 5 1 es15)])))))) ∧ (((d0 == 3) = false) → ((((d0 == 4) = true) → (∃ es16 : List (List FV), (∃ n11 : Int, ((Fn Tryz.prog 65 [(TV.one (AV.ptr 0 0 0 90)), (TV.one (AV.fz (FV.str d1)))] [(Ob.g 90 [(AV.ptr 0 0 0 0), (AV.ofl 1 1)]), (Ob.f 5 1 o)] (TV.tup [(false, [(AV.fz (FV.int .i64 n11))]), (false, [(AV.fz (FV.ifc false))])]) [(Ob.g 90 [(AV.ptr 0 0 0 0), (AV.ofl 1 2)]), Ob.no, (Ob.f 5 1 es16)]) ∧ (R (TV.tup []) [(Ob.g 90 [(AV.ptr 0 0 0 0), (AV.ofl 1 2)]), Ob.no, (Ob.f 5 1 es16)]))))) ∧ (((d0 == 4) = false) → ((((d0 == 5) = true) → (∃ s3 : ByteArray, ((Fn Tryz.prog 24 [(TV.one (AV.fz (FV.str d1)))] [] (TV.one (AV.fz (FV.str s3))) []) ∧ (∃ es17 : List (List FV), (∃ n12 : Int, ((Fn Tryz.prog 65 [(TV.one (AV.ptr 0 0 0 90)), (TV.one (AV.fz (FV.str s3)))] [(Ob.g 90 [(AV.ptr 0 0 0 0), (AV.ofl 1 1)]), (Ob.f 5 1 o)] (TV.tup [(false, [(AV.fz (FV.int .i64 n12))]), (false, [(AV.fz (FV.ifc false))])]) [(Ob.g 90 [(AV.ptr 0 0 0 0), (AV.ofl 1 2)]), Ob.no, (Ob.f 5 1 es17)]) ∧ (R (TV.tup []) [(Ob.g 90 [(AV.ptr 0 0 0 0), (AV.ofl 1 2)]), Ob.no, (Ob.f 5 1 es17)]))))))) ∧ (((d0 == 5) = false) → ((((d0 == 6) = true) → (∃ n13 : Int, (∃ n14 : Int, ((Fn Tryz.prog 64 [(TV.one (AV.fz (FV.str d1)))] [] (TV.tup [(false, [(AV.fz (FV.int .i32 n13))]), (false, [(AV.fz (FV.int .i64 n14))])]) []) ∧ (∃ s4 : ByteArray, (∃ n15 : Int, ((Fn Tryz.prog 93 [(TV.one (AV.fz (FV.int .i64 (IntKind.wrap .i64 n13))))] [] (TV.tup [(false, [(AV.fz (FV.str s4))]), (false, [(AV.fz (FV.int .i64 n15))])]) []) ∧ ((((ByteArray.size (ByteArray.mk #[35, 92])) + (ByteArray.size s4)) ≤ 9223372036854775807) ∧ (∃ es18 : List (List FV), (∃ n16 : Int, ((Fn Tryz.prog 65 [(TV.one (AV.ptr 0 0 0 90)), (TV.one (AV.fz (FV.str ((ByteArray.mk #[35, 92]) ++ s4))))] [(Ob.g 90 [(AV.ptr 0 0 0 0), (AV.ofl 1 1)]), (Ob.f 5 1 o)] (TV.tup [(false, [(AV.fz (FV.int .i64 n16))]), (false, [(AV.fz (FV.ifc false))])]) [(Ob.g 90 [(AV.ptr 0 0 0 0), (AV.ofl 1 2)]), Ob.no, (Ob.f 5 1 es18)]) ∧ (R (TV.tup []) [(Ob.g 90 [(AV.ptr 0 0 0 0), (AV.ofl 1 2)]), Ob.no, (Ob.f 5 1 es18)])))))))))))) ∧ (((d0 == 6) = false) → ((((d0 == 7) = true) → (∃ s5 : ByteArray, ((Fn Tryz.prog 94 [(TV.agg [(AV.fz (FV.bool d2)), (AV.fz (FV.sl 1 d3))])] [] (TV.one (AV.fz (FV.str s5))) []) ∧ (∃ es19 : List (List FV), (∃ n17 : Int, ((Fn Tryz.prog 65 [(TV.one (AV.ptr 0 0 0 90)), (TV.one (AV.fz (FV.str s5)))] [(Ob.g 90 [(AV.ptr 0 0 0 0), (AV.ofl 1 1)]), (Ob.f 5 1 o)] (TV.tup [(false, [(AV.fz (FV.int .i64 n17))]), (false, [(AV.fz (FV.ifc false))])]) [(Ob.g 90 [(AV.ptr 0 0 0 0), (AV.ofl 1 2)]), Ob.no, (Ob.f 5 1 es19)]) ∧ (R (TV.tup []) [(Ob.g 90 [(AV.ptr 0 0 0 0), (AV.ofl 1 2)]), Ob.no, (Ob.f 5 1 es19)]))))))) ∧ (((d0 == 7) = false) → ((((d0 == 8) = true) → (∃ es20 : List (List FV), (∃ n18 : Int, ((Fn Tryz.prog 65 [(TV.one (AV.ptr 0 0 0 90)), (TV.one (AV.fz (FV.str (ByteArray.mk #[35, 116]))))] [(Ob.g 90 [(AV.ptr 0 0 0 0), (AV.ofl 1 1)]), (Ob.f 5 1 o)] (TV.tup [(false, [(AV.fz (FV.int .i64 n18))]), (false, [(AV.fz (FV.ifc false))])]) [(Ob.g 90 [(AV.ptr 0 0 0 0), (AV.ofl 1 2)]), Ob.no, (Ob.f 5 1 es20)]) ∧ (R (TV.tup []) [(Ob.g 90 [(AV.ptr 0 0 0 0), (AV.ofl 1 2)]), Ob.no, (Ob.f 5 1 es20)]))))) ∧ (((d0 == 8) = false) → ((((d0 == 9) = true) → (∃ es21 : List (List FV), (∃ n19 : Int, ((Fn Tryz.prog 65 [(TV.one (AV.ptr 0 0 0 90)), (TV.one (AV.fz (FV.str (ByteArray.mk #[35, 102]))))] [(Ob.g 90 [(AV.ptr 0 0 0 0), (AV.ofl 1 1)]), (Ob.f 5 1 o)] (TV.tup [(false, [(AV.fz (FV.int .i64 n19))]), (false, [(AV.fz (FV.ifc false))])]) [(Ob.g 90 [(AV.ptr 0 0 0 0), (AV.ofl 1 2)]), Ob.no, (Ob.f 5 1 es21)]) ∧ (R (TV.tup []) [(Ob.g 90 [(AV.ptr 0 0 0 0), (AV.ofl 1 2)]), Ob.no, (Ob.f 5 1 es21)]))))) ∧ (((d0 == 9) = false) → ((((d0 == 10) = true) → (∃ es22 : List (List FV), (∃ n20 : Int, ((Fn Tryz.prog 65 [(TV.one (AV.ptr 0 0 0 90)), (TV.one (AV.fz (FV.str (ByteArray.mk #[35, 60, 118, 111, 105, 100, 62]))))] [(Ob.g 90 [(AV.ptr 0 0 0 0), (AV.ofl 1 1)]), (Ob.f 5 1 o)] (TV.tup [(false, [(AV.fz (FV.int .i64 n20))]), (false, [(AV.fz (FV.ifc false))])]) [(Ob.g 90 [(AV.ptr 0 0 0 0), (AV.ofl 1 2)]), Ob.no, (Ob.f 5 1 es22)]) ∧ (R (TV.tup []) [(Ob.g 90 [(AV.ptr 0 0 0 0), (AV.ofl 1 2)]), Ob.no, (Ob.f 5 1 es22)]))))) ∧ (((d0 == 10) = false) → ((((ByteArray.size (ByteArray.mk #[35, 60])) + (ByteArray.size d1)) ≤ 9223372036854775807) ∧ ((((ByteArray.size ((ByteArray.mk #[35, 60]) ++ d1)) + (ByteArray.size (ByteArray.mk #[62]))) ≤ 9223372036854775807) ∧ (∃ es23 : List (List FV), (∃ n21 : Int, ((Fn Tryz.prog 65 [(TV.one (AV.ptr 0 0 0 90)), (TV.one (AV.fz (FV.str (((ByteArray.mk #[35, 60]) ++ d1) ++ (ByteArray.mk #[62])))))] [(Ob.g 90 [(AV.ptr 0 0 0 0), (AV.ofl 1 1)]), (Ob.f 5 1 o)] (TV.tup [(false, [(AV.fz (FV.int .i64 n21))]), (false, [(AV.fz (FV.ifc false))])]) [(Ob.g 90 [(AV.ptr 0 0 0 0), (AV.ofl 1 2)]), Ob.no, (Ob.f 5 1 es23)]) ∧ (R (TV.tup []) [(Ob.g 90 [(AV.ptr 0 0 0 0), (AV.ofl 1 2)]), Ob.no, (Ob.f 5 1 es23)]))))))))))))))))))))))))))
theorem prU_datum_fn (d0 : Int) (d1 : ByteArray) (d2 : Bool) (d3 : List (List FV)) (d4 : List (List FV)) (d5 : Int) (o : List (List FV)) {r : TV} {h : List Ob} (H : prU_datum_H (fun r' h' => r' = r ∧ Wk h' h) d0 d1 d2 d3 d4 d5 o) : Fn Tryz.prog 58 [(TV.one (AV.ptr 0 0 0 90)), (TV.agg [(AV.fz (FV.int .i64 d0)), (AV.fz (FV.str d1)), (AV.fz (FV.bool d2)), (AV.fz (FV.sl 1 d3)), (AV.fz (FV.sl 6 d4)), (AV.fz (FV.int .i64 d5))])] [(Ob.g 90 [(AV.ptr 0 0 0 0), (AV.ofl 1 1)]), (Ob.f 5 1 o)] r h :=
  Fn.by_trW (M := (modeOf [] [(63, [(Sig.mk 1 [(false, [(AT.a (AV.fz (FV.ifc false)))])] [(OT.g 90 [(AT.a (AV.ptr 0 0 0 0)), (AT.a (AV.ofl 1 1))]), (OT.f 5 1)] 0), (Sig.mk 2 [(false, [(AT.a (AV.fz (FV.ifc false)))])] [(OT.g 90 [(AT.a (AV.ptr 0 0 0 0)), (AT.a (AV.ofl 1 2))]), OT.no, (OT.f 5 1)] 0)]), (65, [(Sig.mk 1 [(false, [(AT.k (CK.int .i64))]), (false, [(AT.a (AV.fz (FV.ifc false)))])] [(OT.g 90 [(AT.a (AV.ptr 0 0 0 0)), (AT.a (AV.ofl 1 1))]), (OT.f 5 1)] 0), (Sig.mk 2 [(false, [(AT.k (CK.int .i64))]), (false, [(AT.a (AV.fz (FV.ifc false)))])] [(OT.g 90 [(AT.a (AV.ptr 0 0 0 0)), (AT.a (AV.ofl 1 2))]), OT.no, (OT.f 5 1)] 0)]), (92, [(Sig.mk 1 [] [(OT.g 90 [(AT.a (AV.ptr 0 0 0 0)), (AT.a (AV.ofl 1 1))]), (OT.f 5 1)] 0), (Sig.mk 2 [] [(OT.g 90 [(AT.a (AV.ptr 0 0 0 0)), (AT.a (AV.ofl 1 2))]), OT.no, (OT.f 5 1)] 0)])])) (lv := prU_datum_lv) (own := (some 2)) (F := Tryz.f58) (by kernel_rfl) (by kernel_rfl) (by first | decide | simp) (fun _ _ h => h) (by kernel_rfl) H
end Go.Proofs.YtejefchehdifhaaGreatDoor.Ev
end
section
set_option linter.unusedVariables false
set_option linter.unusedSimpArgs false
namespace Go.Proofs.YtejefchehdifhaaGreatDoor.Ev
open Go
abbrev p1 : TV := .one (.ptr 0 0 0 90)
theorem deR_utfB {c : Int} (hc : scalB c = true) : deR (utfB c) = c := by
  have h := ch1_utfB hc []
  rw [List.append_nil] at h
  rcases de_ch1 (utfB_bytes hc) (utfB_ne c) with ⟨e1, _⟩ | ⟨e1, _⟩
  · rw [h] at e1
    have h2 := (Prod.mk.inj e1).2
    have h3 := utfB_ne c
    exact absurd (List.length_eq_zero_iff.1 (by omega)) h3
  · rw [h] at e1
    exact (Prod.mk.inj e1).1.symm
theorem deR_scal {c : Int} {l : List Int} (hc : scalB c = true) (e : l = utfB c) : scalB (deR l) = true := by rw [e, deR_utfB hc]; exact hc
mutual
theorem txt_good : ∀ (x : Dt), x.ok → x.fit → Bytes x.txt ∧ x.txt.length + 4 ≤ 90 * FV.bulkL x.row
  | .mk k t n l ds a, hok, hf => by
    unfold Dt.ok at hok
    unfold Dt.fit at hf
    obtain ⟨hk, ht, hu, hl, hdl, hds, ha⟩ := hok
    obtain ⟨f1, f6, f7, f4, ff⟩ := hf
    have hb := bs_bytes t
    have hsz := size_bs t
    obtain ⟨t1, t2⟩ := txts_good ds (decide (k = 2)) true hds ff
    have hbl : l.length ≤ FV.bulkE (ints .u32 l) := by
      clear hl hu f7
      induction l with
      | nil => simp
      | cons x l ih => simp only [ints, List.map_cons, FV.bulkE, FV.bulkL, FV.bulk, List.length_cons]; simp only [ints] at ih; omega
    unfold Dt.txt
    simp only [Dt.row, FV.bulkL, FV.bulk]
    refine ⟨?_, ?_⟩
    · repeat' split
      · exact hb
      · exact (quoV_bytes hb).1
      · rename_i c6
        obtain ⟨c, hc, e⟩ := f6 c6
        refine Bytes.append (by intro x hx; simp at hx; omega) (nameL_bytes (deR_scal hc e)).1
      · exact numT_bytes n l
      · intro x hx; simp at hx; omega
      · intro x hx; simp at hx; omega
      · intro x hx; simp at hx; omega
      · exact Bytes.append (Bytes.append (by intro x hx; simp at hx; omega) hb) (by intro x hx; simp at hx; omega)
      · exact Bytes.append (by intro x hx; simp at hx; omega) t1
      · exact Bytes.append (by intro x hx; simp at hx; omega) t1
    · repeat' split
      · omega
      · have := (quoV_bytes hb).2; omega
      · rename_i c6
        obtain ⟨c, hc, e⟩ := f6 c6
        have := (nameL_bytes (deR_scal hc e)).2
        rw [List.length_append]
        simp only [List.length_cons, List.length_nil]; omega
      · rename_i c7
        obtain ⟨n1, n2⟩ := numT_len n l hu (f7 c7)
        omega
      · simp only [List.length_cons, List.length_nil]; omega
      · simp only [List.length_cons, List.length_nil]; omega
      · simp only [List.length_cons, List.length_nil]; omega
      · simp only [List.length_append, List.length_cons, List.length_nil]; omega
      · simp only [List.length_append, List.length_cons, List.length_nil]; omega
      · simp only [List.length_append, List.length_cons, List.length_nil]; omega
theorem txts_good : ∀ (xs : List Dt) (dot first : Bool), Dt.oks xs → Dt.fits xs → Bytes (Dt.txts dot first xs) ∧ (Dt.txts dot first xs).length ≤ 90 * FV.bulkE (Dt.rows xs) + 1
  | [], dot, first, _, _ => by
    unfold Dt.txts
    exact ⟨by intro x hx; simp at hx; omega, by simp⟩
  | x :: xs, dot, first, hok, hf => by
    unfold Dt.oks at hok
    unfold Dt.fits at hf
    obtain ⟨a1, a2⟩ := txt_good x hok.1 hf.1
    obtain ⟨b1, b2⟩ := txts_good xs dot false hok.2 hf.2
    unfold Dt.txts
    simp only [Dt.rows, FV.bulkE]
    refine ⟨?_, ?_⟩
    · refine Bytes.append ?_ (Bytes.append ?_ (Bytes.append a1 b1))
      · split
        · exact Bytes.nil
        · intro x hx; simp at hx; omega
      · split
        · intro x hx; simp at hx; omega
        · exact Bytes.nil
    · have e1 : (if first = true then ([] : List Int) else [32]).length ≤ 1 := by split <;> simp
      have e2 : (if dot = true ∧ xs = [] then ([46, 32] : List Int) else []).length ≤ 2 := by split <;> simp
      simp only [List.length_append]
      omega
end
theorem txts_cons (dot first : Bool) (x : Dt) (xs : List Dt) : Dt.txts dot first (x :: xs) = (if first = true then [] else [32]) ++ ((if dot = true ∧ xs = [] then [46, 32] else []) ++ (x.txt ++ Dt.txts dot false xs)) := by
  conv => lhs; unfold Dt.txts
theorem wbU (c : Int) (l : List Int) (hl : l.length ≤ 99000000) : Fn Tryz.prog 63 [p1, fzI .u8 c] (pU l) (.one (.fz (.ifc false))) (pV (l ++ [c])) := FnC.ptr1 _ (writeByteUP_ok c l (by omega))
theorem wbF (c : Int) : Fn Tryz.prog 63 [p1, fzI .u8 c] pF (.one (.fz (.ifc false))) (pU [c]) := FnC.ptr1 _ (writeByteFP_ok c)
theorem wsU (X l : List Int) (hX : Bytes X) (hx : X.length ≤ 99000000) (hl : l.length ≤ 99000000) : Fn Tryz.prog 65 [p1, .one (.fz (.str (bytesOf X)))] (pU l) (wsR X.length) (pV (l ++ X)) := by
  have := writeStringUP_ok (bytesOf X) l (by rw [bs_of hX]; omega) (by omega)
  rw [bs_of hX] at this
  exact FnC.ptr1 _ this
theorem wsF (X : List Int) (hX : Bytes X) (hx : X.length ≤ 99000000) : Fn Tryz.prog 65 [p1, .one (.fz (.str (bytesOf X)))] pF (wsR X.length) (pU X) := by
  have := writeStringFP_ok (bytesOf X) (by rw [bs_of hX]; omega)
  rw [bs_of hX] at this
  exact FnC.ptr1 _ this
def DatU (x : Dt) : Prop := ∀ out : List Int, out.length + x.txt.length ≤ 98000000 → Fn Tryz.prog 58 [p1, fzD x] (pU out) (.tup []) (pV (out ++ x.txt))
theorem prU_loop (xs : List Dt) (dot : Bool) (R : TV → List Ob → Prop) (hxl : xs.length ≤ 1048576) (hp : ∀ x ∈ xs, DatU x) : ∀ (d j : Nat) (out : List Int), j + d = xs.length →
    out.length + (Dt.txts dot (decide (j = 0)) (xs.drop j)).length ≤ 98000000 → R (.tup []) (pV (out ++ Dt.txts dot (decide (j = 0)) (xs.drop j))) → prU_list_L0 R (Dt.rows xs) dot j (ints .u8 out) := by
  intro d
  induction d with
  | zero =>
    intro j out hj ho hR
    refine prU_list_l0 ?_
    unfold prU_list_R0
    rw [rows_len]
    rw [List.drop_eq_nil_of_le (by omega)] at ho hR
    unfold Dt.txts at ho hR
    refine ⟨fun h => ?_, fun _ => ⟨_, wbU 41 out (by omega), hR⟩⟩
    have := of_decide_eq_true h
    omega
  | succ d ih =>
    intro j out hj ho hR
    refine prU_list_l0 ?_
    unfold prU_list_R0
    rw [rows_len]
    have hlt : j < xs.length := by omega
    rw [List.drop_eq_getElem_cons hlt] at ho hR
    have hg : (Dt.rows xs)[Int.toNat (j : Int)]? = some xs[j].row := by rw [rows_get, Int.toNat_natCast, List.getElem?_eq_getElem hlt]; rfl
    have hpx := hp xs[j] (List.getElem_mem _)
    have hE : ∀ E : List Int, Dt.txts dot (decide (j = 0)) (xs[j] :: xs.drop (j + 1)) = E ++ (xs[j].txt ++ Dt.txts dot false (xs.drop (j + 1))) →
        ∃ es : List (List FV), (Fn Tryz.prog 58 [p1, fzD xs[j]] (pU (out ++ E)) (.tup []) [.g 90 [.ptr 0 0 0 0, .ofl 1 2], .no, .f 5 1 es]) ∧ prU_list_L0 R (Dt.rows xs) dot (IntKind.wrap .i64 ((j : Int) + 1)) es := fun E e => by
      rw [e] at ho hR
      simp only [List.length_append] at ho
      refine ⟨_, hpx (out ++ E) (by rw [List.length_append]; omega), ?_⟩
      rw [w64 (by omega) (by omega)]
      refine ih (j + 1) (out ++ E ++ xs[j].txt) (by omega) ?_ ?_
      · rw [show decide (j + 1 = 0) = false from rfl]
        simp only [List.length_append]; omega
      · rw [show decide (j + 1 = 0) = false from rfl]
        simpa [List.append_assoc] using hR
    have hlast : xs.drop (j + 1) = [] ↔ j + 1 = xs.length := by
      rw [List.drop_eq_nil_iff]; omega
    have e46 : ByteArray.mk #[46, 32] = bytesOf [46, 32] := by decide +kernel
    have b46 : Bytes [46, 32] := by intro x hx; simp at hx; omega
    generalize hx : xs[j] = x at *
    obtain ⟨k, t, n, l, ds, a⟩ := x
    rw [e46, w64 (n := (xs.length : Int) - 1) (by omega) (by omega)]
    refine ⟨fun _ => ⟨by omega, k, t, n, ints .u32 l, Dt.rows ds, a, hg, fun h0 => ?_, fun h0 => ?_⟩, fun h => absurd hlt (by have := of_decide_eq_false h; omega)⟩
    · have j0 : ¬ j = 0 := by have := of_decide_eq_true h0; omega
      refine ⟨_, wbU 32 out (by omega), fun hd => ⟨fun hl => ⟨_, _, wsU [46, 32] (out ++ [32]) b46 (by simp) (by simp; omega), ?_⟩, fun hl => ?_⟩, fun hd => ?_⟩
      · have e := hE ([32] ++ [46, 32]) (by rw [txts_cons, if_neg (by simp [j0]), if_pos ⟨hd, hlast.2 (by simp at hl; omega)⟩]; simp)
        rw [← List.append_assoc] at e
        exact e
      · exact hE [32] (by rw [txts_cons, if_neg (by simp [j0]), if_neg (fun c => by have := hlast.1 c.2; simp at hl; omega)]; simp)
      · exact hE [32] (by rw [txts_cons, if_neg (by simp [j0]), if_neg (fun c => by rw [hd] at c; exact absurd c.1 (by simp))]; simp)
    · have j0 : j = 0 := by have := of_decide_eq_false h0; omega
      refine ⟨fun hd => ⟨fun hl => ⟨_, _, wsU [46, 32] out b46 (by simp) (by omega), ?_⟩, fun hl => ?_⟩, fun hd => ?_⟩
      · exact hE [46, 32] (by rw [txts_cons, if_pos (by simp [j0]), if_pos ⟨hd, hlast.2 (by simp at hl; omega)⟩]; simp)
      · have e := hE [] (by rw [txts_cons, if_pos (by simp [j0]), if_neg (fun c => by have := hlast.1 c.2; simp at hl; omega)]; simp)
        rw [List.append_nil] at e
        exact e
      · have e := hE [] (by rw [txts_cons, if_pos (by simp [j0]), if_neg (fun c => by rw [hd] at c; exact absurd c.1 (by simp))]; simp)
        rw [List.append_nil] at e
        exact e
theorem prF_loop (xs : List Dt) (dot : Bool) (R : TV → List Ob → Prop) (hxl : xs.length ≤ 1048576) (hp : ∀ x ∈ xs, DatU x) : ∀ (d j : Nat) (out : List Int), j + d = xs.length →
    out.length + (Dt.txts dot (decide (j = 0)) (xs.drop j)).length ≤ 98000000 → R (.tup []) (pU (out ++ Dt.txts dot (decide (j = 0)) (xs.drop j))) → prF_list_L0 R (Dt.rows xs) dot j (ints .u8 out) := by
  intro d
  induction d with
  | zero =>
    intro j out hj ho hR
    refine prF_list_l0 ?_
    unfold prF_list_R0
    rw [rows_len]
    rw [List.drop_eq_nil_of_le (by omega)] at ho hR
    unfold Dt.txts at ho hR
    refine ⟨fun h => ?_, fun _ => ⟨_, wbU 41 out (by omega), hR⟩⟩
    have := of_decide_eq_true h
    omega
  | succ d ih =>
    intro j out hj ho hR
    refine prF_list_l0 ?_
    unfold prF_list_R0
    rw [rows_len]
    have hlt : j < xs.length := by omega
    rw [List.drop_eq_getElem_cons hlt] at ho hR
    have hg : (Dt.rows xs)[Int.toNat (j : Int)]? = some xs[j].row := by rw [rows_get, Int.toNat_natCast, List.getElem?_eq_getElem hlt]; rfl
    have hpx := hp xs[j] (List.getElem_mem _)
    have hE : ∀ E : List Int, Dt.txts dot (decide (j = 0)) (xs[j] :: xs.drop (j + 1)) = E ++ (xs[j].txt ++ Dt.txts dot false (xs.drop (j + 1))) →
        ∃ es : List (List FV), (Fn Tryz.prog 58 [p1, fzD xs[j]] (pU (out ++ E)) (.tup []) [.g 90 [.ptr 0 0 0 0, .ofl 1 2], .no, .f 5 1 es]) ∧ prF_list_L0 R (Dt.rows xs) dot (IntKind.wrap .i64 ((j : Int) + 1)) es := fun E e => by
      rw [e] at ho hR
      simp only [List.length_append] at ho
      refine ⟨_, hpx (out ++ E) (by rw [List.length_append]; omega), ?_⟩
      rw [w64 (by omega) (by omega)]
      refine ih (j + 1) (out ++ E ++ xs[j].txt) (by omega) ?_ ?_
      · rw [show decide (j + 1 = 0) = false from rfl]
        simp only [List.length_append]; omega
      · rw [show decide (j + 1 = 0) = false from rfl]
        simpa [List.append_assoc] using hR
    have hlast : xs.drop (j + 1) = [] ↔ j + 1 = xs.length := by
      rw [List.drop_eq_nil_iff]; omega
    have e46 : ByteArray.mk #[46, 32] = bytesOf [46, 32] := by decide +kernel
    have b46 : Bytes [46, 32] := by intro x hx; simp at hx; omega
    generalize hx : xs[j] = x at *
    obtain ⟨k, t, n, l, ds, a⟩ := x
    rw [e46, w64 (n := (xs.length : Int) - 1) (by omega) (by omega)]
    refine ⟨fun _ => ⟨by omega, k, t, n, ints .u32 l, Dt.rows ds, a, hg, fun h0 => ?_, fun h0 => ?_⟩, fun h => absurd hlt (by have := of_decide_eq_false h; omega)⟩
    · have j0 : ¬ j = 0 := by have := of_decide_eq_true h0; omega
      refine ⟨_, wbU 32 out (by omega), fun hd => ⟨fun hl => ⟨_, _, wsU [46, 32] (out ++ [32]) b46 (by simp) (by simp; omega), ?_⟩, fun hl => ?_⟩, fun hd => ?_⟩
      · have e := hE ([32] ++ [46, 32]) (by rw [txts_cons, if_neg (by simp [j0]), if_pos ⟨hd, hlast.2 (by simp at hl; omega)⟩]; simp)
        rw [← List.append_assoc] at e
        exact e
      · exact hE [32] (by rw [txts_cons, if_neg (by simp [j0]), if_neg (fun c => by have := hlast.1 c.2; simp at hl; omega)]; simp)
      · exact hE [32] (by rw [txts_cons, if_neg (by simp [j0]), if_neg (fun c => by rw [hd] at c; exact absurd c.1 (by simp))]; simp)
    · have j0 : j = 0 := by have := of_decide_eq_false h0; omega
      refine ⟨fun hd => ⟨fun hl => ⟨_, _, wsU [46, 32] out b46 (by simp) (by omega), ?_⟩, fun hl => ?_⟩, fun hd => ?_⟩
      · exact hE [46, 32] (by rw [txts_cons, if_pos (by simp [j0]), if_pos ⟨hd, hlast.2 (by simp at hl; omega)⟩]; simp)
      · have e := hE [] (by rw [txts_cons, if_pos (by simp [j0]), if_neg (fun c => by have := hlast.1 c.2; simp at hl; omega)]; simp)
        rw [List.append_nil] at e
        exact e
      · have e := hE [] (by rw [txts_cons, if_pos (by simp [j0]), if_neg (fun c => by rw [hd] at c; exact absurd c.1 (by simp))]; simp)
        rw [List.append_nil] at e
        exact e
theorem prU_list_ok (xs : List Dt) (dot : Bool) (out : List Int) (hxl : xs.length ≤ 1048576) (hp : ∀ x ∈ xs, DatU x) (ho : out.length + 1 + (Dt.txts dot true xs).length ≤ 98000000) :
    Fn Tryz.prog 92 [p1, .one (.fz (.sl 6 (Dt.rows xs))), fzB dot] (pU out) (.tup []) (pV (out ++ (40 :: Dt.txts dot true xs))) := by
  refine prU_list_fn _ _ _ ?_
  unfold prU_list_H
  refine ⟨_, wbU 40 out (by omega), ?_⟩
  exact prU_loop xs dot _ hxl hp xs.length 0 (out ++ [40]) (by omega) (by simp; omega) ⟨rfl, by simpa using Wk.refl _⟩
theorem prF_list_ok (xs : List Dt) (dot : Bool) (hxl : xs.length ≤ 1048576) (hp : ∀ x ∈ xs, DatU x) (ho : 1 + (Dt.txts dot true xs).length ≤ 98000000) :
    Fn Tryz.prog 92 [p1, .one (.fz (.sl 6 (Dt.rows xs))), fzB dot] pF (.tup []) (pU (40 :: Dt.txts dot true xs)) := by
  refine prF_list_fn _ _ ?_
  unfold prF_list_H
  refine ⟨_, wbF 40, ?_⟩
  exact prF_loop xs dot _ hxl hp xs.length 0 [40] (by omega) (by simp; omega) ⟨rfl, by simpa using Wk.refl _⟩
end Go.Proofs.YtejefchehdifhaaGreatDoor.Ev
end
section
set_option linter.unusedVariables false
set_option linter.unusedSimpArgs false
namespace Go.Proofs.YtejefchehdifhaaGreatDoor.Ev
open Go
theorem txt_1 (t : ByteArray) (n : Bool) (l : List Int) (ds : List Dt) (a : Int) : Dt.txt (.mk 1 t n l ds a) = 40 :: Dt.txts false true ds := by
  conv => lhs; unfold Dt.txt
  rfl
theorem txt_2 (t : ByteArray) (n : Bool) (l : List Int) (ds : List Dt) (a : Int) : Dt.txt (.mk 2 t n l ds a) = 40 :: Dt.txts true true ds := by
  conv => lhs; unfold Dt.txt
  rfl
theorem txt_3 (t : ByteArray) (n : Bool) (l : List Int) (ds : List Dt) (a : Int) : Dt.txt (.mk 3 t n l ds a) = 35 :: 40 :: Dt.txts false true ds := by
  conv => lhs; unfold Dt.txt
  rfl
theorem txt_4 (t : ByteArray) (n : Bool) (l : List Int) (ds : List Dt) (a : Int) : Dt.txt (.mk 4 t n l ds a) = bs t := by
  conv => lhs; unfold Dt.txt
  rfl
theorem txt_5 (t : ByteArray) (n : Bool) (l : List Int) (ds : List Dt) (a : Int) : Dt.txt (.mk 5 t n l ds a) = quoV (bs t) := by
  conv => lhs; unfold Dt.txt
  rfl
theorem txt_6 (t : ByteArray) (n : Bool) (l : List Int) (ds : List Dt) (a : Int) : Dt.txt (.mk 6 t n l ds a) = [35, 92] ++ nameL (deR (bs t)) := by
  conv => lhs; unfold Dt.txt
  rfl
theorem txt_7 (t : ByteArray) (n : Bool) (l : List Int) (ds : List Dt) (a : Int) : Dt.txt (.mk 7 t n l ds a) = numT n l := by
  conv => lhs; unfold Dt.txt
  rfl
theorem txt_8 (t : ByteArray) (n : Bool) (l : List Int) (ds : List Dt) (a : Int) : Dt.txt (.mk 8 t n l ds a) = [35, 116] := by
  conv => lhs; unfold Dt.txt
  rfl
theorem txt_9 (t : ByteArray) (n : Bool) (l : List Int) (ds : List Dt) (a : Int) : Dt.txt (.mk 9 t n l ds a) = [35, 102] := by
  conv => lhs; unfold Dt.txt
  rfl
theorem txt_10 (t : ByteArray) (n : Bool) (l : List Int) (ds : List Dt) (a : Int) : Dt.txt (.mk 10 t n l ds a) = [35, 60, 118, 111, 105, 100, 62] := by
  conv => lhs; unfold Dt.txt
  rfl
theorem txt_11 (t : ByteArray) (n : Bool) (l : List Int) (ds : List Dt) (a : Int) : Dt.txt (.mk 11 t n l ds a) = [35, 60] ++ bs t ++ [62] := by
  conv => lhs; unfold Dt.txt
  rfl
theorem small3 : Bytes [35, 116] ∧ Bytes [35, 102] ∧ Bytes [35, 60, 118, 111, 105, 100, 62] := by
  refine ⟨?_, ?_, ?_⟩ <;> (intro x hx; simp at hx; omega)
abbrev pUr (es : List (List FV)) : List Ob := [.g 90 [.ptr 0 0 0 0, .ofl 1 1], .f 5 1 es]
abbrev pVr (es : List (List FV)) : List Ob := [.g 90 [.ptr 0 0 0 0, .ofl 1 2], .no, .f 5 1 es]
theorem prU_leafs (k : Int) (t : ByteArray) (n : Bool) (l : List Int) (ds : List Dt) (a : Int) (out : List Int) (hok : Dt.ok (.mk k t n l ds a)) (hf : Dt.fit (.mk k t n l ds a)) (hall : ∀ x ∈ ds, DatU x) (ho : out.length + (Dt.txt (.mk k t n l ds a)).length ≤ 98000000) :
    Fn Tryz.prog 58 [p1, fzD (.mk k t n l ds a)] (pU out) (.tup []) (pV (out ++ (Dt.mk k t n l ds a).txt)) := by
  unfold Dt.ok at hok
  unfold Dt.fit at hf
  obtain ⟨hk, ht, hu, hl, hdl, hds, ha⟩ := hok
  obtain ⟨f1, f6, f7, f4, ff⟩ := hf
  obtain ⟨T, hT, rfl⟩ : ∃ T, Bytes T ∧ t = bytesOf T := ⟨bs t, bs_bytes t, (of_bs t).symm⟩
  rw [size_of] at ht
  rw [bs_of hT] at f6 f4
  refine prU_datum_fn _ _ _ _ _ _ _ ?_
  obtain ⟨R, hR, hRe⟩ : ∃ R : TV → List Ob → Prop, R (.tup []) (pV (out ++ (Dt.mk k (bytesOf T) n l ds a).txt)) ∧ (fun r' h' => r' = (.tup []) ∧ Wk h' (pV (out ++ (Dt.mk k (bytesOf T) n l ds a).txt))) = R := ⟨_, ⟨rfl, Wk.refl _⟩, rfl⟩
  rw [hRe]; clear hRe
  unfold prU_datum_H
  simp only [beq_t, beq_f]
  have ws : ∀ (X : List Int), Bytes X → out ++ X = out ++ (Dt.mk k (bytesOf T) n l ds a).txt → ∃ es : List (List FV), ∃ m : Int, (Fn Tryz.prog 65 [p1, .one (.fz (.str (bytesOf X)))] (pU out) (.tup [(false, [.fz (.int .i64 m)]), (false, [.fz (.ifc false)])]) (pVr es)) ∧ R (.tup []) (pVr es) := fun X hX e => by
    have hl := congrArg List.length e
    simp only [List.length_append] at hl
    refine ⟨_, _, wsU X out hX (by omega) (by omega), ?_⟩
    rw [e]; exact hR
  refine ⟨fun h => ?_, fun c1 => ⟨fun h => ?_, fun c2 => ⟨fun h => ?_, fun c3 => ⟨fun h => ?_, fun c4 => ⟨fun h => ?_, fun c5 => ⟨fun h => ?_, fun c6 => ⟨fun h => ?_, fun c7 => ⟨fun h => ?_, fun c8 => ⟨fun h => ?_, fun c9 => ⟨fun h => ?_, fun c10 => ?_⟩⟩⟩⟩⟩⟩⟩⟩⟩⟩
  · subst h
    rw [txt_1] at hR ho
    exact ⟨_, prU_list_ok ds false out hdl hall (by simp only [List.length_cons] at ho; omega), hR⟩
  · subst h
    rw [txt_2] at hR ho
    exact ⟨_, prU_list_ok ds true out hdl hall (by simp only [List.length_cons] at ho; omega), hR⟩
  · subst h
    rw [txt_3] at hR ho
    simp only [List.length_cons] at ho
    have hl := prU_list_ok ds false (out ++ [35]) hdl hall (by simp only [List.length_append, List.length_cons, List.length_nil]; omega)
    refine ⟨_, wbU 35 out (by omega), _, hl, ?_⟩
    have e : (out ++ [35]) ++ (40 :: Dt.txts false true ds) = out ++ (35 :: 40 :: Dt.txts false true ds) := by simp
    rw [e]; exact hR
  · subst h
    exact ws T hT (by rw [txt_4, bs_of hT])
  · subst h
    exact ⟨_, pQuoted_ok T hT (by omega), ws _ (quoV_bytes hT).1 (by rw [txt_5, bs_of hT])⟩
  · subst h
    obtain ⟨c, hc, e⟩ := f6 rfl
    have hsc := deR_scal hc e
    obtain ⟨s0, s1, _⟩ := scal_in hsc
    obtain ⟨n1, n2⟩ := nameL_bytes hsc
    refine ⟨_, _, DecodeInString_fn T, ?_⟩
    rw [w64 (n := deR T) (by omega) (by omega), show ByteArray.mk #[35, 92] = bytesOf [35, 92] from by decide +kernel]
    refine ⟨_, _, uName_ok _ hsc, by rw [size_of, size_of]; simp only [List.length_cons, List.length_nil]; omega, ?_⟩
    rw [app_of]
    exact ws _ (Bytes.append (by intro x hx; simp at hx; omega) n1) (by rw [txt_6, bs_of hT])
  · subst h
    have hs := f7 rfl
    have hl64 : l.length ≤ 64 := by
      unfold sndB at hs
      simp only [Bool.and_eq_true, decide_eq_true_eq] at hs
      exact hs.1.1
    exact ⟨_, text_ok n l hu (by omega), ws _ (numT_bytes n l) (by rw [txt_7])⟩
  · subst h
    rw [show ByteArray.mk #[35, 116] = bytesOf [35, 116] from by decide +kernel]
    exact ws _ small3.1 (by rw [txt_8])
  · subst h
    rw [show ByteArray.mk #[35, 102] = bytesOf [35, 102] from by decide +kernel]
    exact ws _ small3.2.1 (by rw [txt_9])
  · subst h
    rw [show ByteArray.mk #[35, 60, 118, 111, 105, 100, 62] = bytesOf [35, 60, 118, 111, 105, 100, 62] from by decide +kernel]
    exact ws _ small3.2.2 (by rw [txt_10])
  · obtain rfl : k = 11 := by omega
    rw [show ByteArray.mk #[35, 60] = bytesOf [35, 60] from by decide +kernel, show ByteArray.mk #[62] = bytesOf [62] from by decide +kernel, app_of, app_of]
    refine ⟨by rw [size_of, size_of]; simp only [List.length_cons, List.length_nil]; omega, by rw [size_of, size_of]; simp only [List.length_append, List.length_cons, List.length_nil]; omega, ?_⟩
    exact ws _ (Bytes.append (Bytes.append (by intro x hx; simp at hx; omega) hT) (by intro x hx; simp at hx; omega)) (by rw [txt_11, bs_of hT])
theorem prF_leafs (k : Int) (t : ByteArray) (n : Bool) (l : List Int) (ds : List Dt) (a : Int) (hok : Dt.ok (.mk k t n l ds a)) (hf : Dt.fit (.mk k t n l ds a)) (hall : ∀ x ∈ ds, DatU x) (ho : (Dt.txt (.mk k t n l ds a)).length ≤ 98000000) :
    Fn Tryz.prog 58 [p1, fzD (.mk k t n l ds a)] pF (.tup []) (pU ((Dt.mk k t n l ds a).txt)) := by
  unfold Dt.ok at hok
  unfold Dt.fit at hf
  obtain ⟨hk, ht, hu, hl, hdl, hds, ha⟩ := hok
  obtain ⟨f1, f6, f7, f4, ff⟩ := hf
  obtain ⟨T, hT, rfl⟩ : ∃ T, Bytes T ∧ t = bytesOf T := ⟨bs t, bs_bytes t, (of_bs t).symm⟩
  rw [size_of] at ht
  rw [bs_of hT] at f6 f4
  refine prF_datum_fn _ _ _ _ _ _ ?_
  obtain ⟨R, hR, hRe⟩ : ∃ R : TV → List Ob → Prop, R (.tup []) (pU ((Dt.mk k (bytesOf T) n l ds a).txt)) ∧ (fun r' h' => r' = (.tup []) ∧ Wk h' (pU ((Dt.mk k (bytesOf T) n l ds a).txt))) = R := ⟨_, ⟨rfl, Wk.refl _⟩, rfl⟩
  rw [hRe]; clear hRe
  unfold prF_datum_H
  simp only [beq_t, beq_f]
  have ws : ∀ (X : List Int), Bytes X → X = (Dt.mk k (bytesOf T) n l ds a).txt → ∃ es : List (List FV), ∃ m : Int, (Fn Tryz.prog 65 [p1, .one (.fz (.str (bytesOf X)))] pF (.tup [(false, [.fz (.int .i64 m)]), (false, [.fz (.ifc false)])]) (pUr es)) ∧ R (.tup []) (pUr es) := fun X hX e => by
    have hl := congrArg List.length e
    skip
    refine ⟨_, _, wsF X hX (by omega), ?_⟩
    rw [e]; exact hR
  refine ⟨fun h => ?_, fun c1 => ⟨fun h => ?_, fun c2 => ⟨fun h => ?_, fun c3 => ⟨fun h => ?_, fun c4 => ⟨fun h => ?_, fun c5 => ⟨fun h => ?_, fun c6 => ⟨fun h => ?_, fun c7 => ⟨fun h => ?_, fun c8 => ⟨fun h => ?_, fun c9 => ⟨fun h => ?_, fun c10 => ?_⟩⟩⟩⟩⟩⟩⟩⟩⟩⟩
  · subst h
    rw [txt_1] at hR ho
    exact ⟨_, prF_list_ok ds false hdl hall (by simp only [List.length_cons] at ho; omega), hR⟩
  · subst h
    rw [txt_2] at hR ho
    exact ⟨_, prF_list_ok ds true hdl hall (by simp only [List.length_cons] at ho; omega), hR⟩
  · subst h
    rw [txt_3] at hR ho
    simp only [List.length_cons] at ho
    have hl := prU_list_ok ds false ([35]) hdl hall (by simp only [List.length_append, List.length_cons, List.length_nil]; omega)
    refine ⟨_, wbF 35, _, hl, ?_⟩
    have e : ([35]) ++ (40 :: Dt.txts false true ds) = (35 :: 40 :: Dt.txts false true ds) := by simp
    rw [e]; exact hR
  · subst h
    exact ws T hT (by rw [txt_4, bs_of hT])
  · subst h
    exact ⟨_, pQuoted_ok T hT (by omega), ws _ (quoV_bytes hT).1 (by rw [txt_5, bs_of hT])⟩
  · subst h
    obtain ⟨c, hc, e⟩ := f6 rfl
    have hsc := deR_scal hc e
    obtain ⟨s0, s1, _⟩ := scal_in hsc
    obtain ⟨n1, n2⟩ := nameL_bytes hsc
    refine ⟨_, _, DecodeInString_fn T, ?_⟩
    rw [w64 (n := deR T) (by omega) (by omega), show ByteArray.mk #[35, 92] = bytesOf [35, 92] from by decide +kernel]
    refine ⟨_, _, uName_ok _ hsc, by rw [size_of, size_of]; simp only [List.length_cons, List.length_nil]; omega, ?_⟩
    rw [app_of]
    exact ws _ (Bytes.append (by intro x hx; simp at hx; omega) n1) (by rw [txt_6, bs_of hT])
  · subst h
    have hs := f7 rfl
    have hl64 : l.length ≤ 64 := by
      unfold sndB at hs
      simp only [Bool.and_eq_true, decide_eq_true_eq] at hs
      exact hs.1.1
    exact ⟨_, text_ok n l hu (by omega), ws _ (numT_bytes n l) (by rw [txt_7])⟩
  · subst h
    rw [show ByteArray.mk #[35, 116] = bytesOf [35, 116] from by decide +kernel]
    exact ws _ small3.1 (by rw [txt_8])
  · subst h
    rw [show ByteArray.mk #[35, 102] = bytesOf [35, 102] from by decide +kernel]
    exact ws _ small3.2.1 (by rw [txt_9])
  · subst h
    rw [show ByteArray.mk #[35, 60, 118, 111, 105, 100, 62] = bytesOf [35, 60, 118, 111, 105, 100, 62] from by decide +kernel]
    exact ws _ small3.2.2 (by rw [txt_10])
  · obtain rfl : k = 11 := by omega
    rw [show ByteArray.mk #[35, 60] = bytesOf [35, 60] from by decide +kernel, show ByteArray.mk #[62] = bytesOf [62] from by decide +kernel, app_of, app_of]
    refine ⟨by rw [size_of, size_of]; simp only [List.length_cons, List.length_nil]; omega, by rw [size_of, size_of]; simp only [List.length_append, List.length_cons, List.length_nil]; omega, ?_⟩
    exact ws _ (Bytes.append (Bytes.append (by intro x hx; simp at hx; omega) hT) (by intro x hx; simp at hx; omega)) (by rw [txt_11, bs_of hT])
mutual
theorem prU_ok : ∀ (x : Dt), x.ok → x.fit → DatU x
  | .mk k t n l ds a, hok, hf => fun out ho => by
    have h1 := hok
    have h2 := hf
    unfold Dt.ok at h1
    unfold Dt.fit at h2
    exact prU_leafs k t n l ds a out hok hf (prU_all ds h1.2.2.2.2.2.1 h2.2.2.2.2) ho
theorem prU_all : ∀ (xs : List Dt), Dt.oks xs → Dt.fits xs → ∀ x ∈ xs, DatU x
  | [], _, _, x, h => by cases h
  | y :: ys, hok, hf, x, h => by
    unfold Dt.oks at hok
    unfold Dt.fits at hf
    have h1 := prU_ok y hok.1 hf.1
    have h2 := prU_all ys hok.2 hf.2
    rcases List.mem_cons.1 h with e | e
    · rw [e]; exact h1
    · exact h2 x e
end
theorem prF_ok (x : Dt) (hok : x.ok) (hf : x.fit) (ho : x.txt.length ≤ 98000000) : Fn Tryz.prog 58 [p1, fzD x] pF (.tup []) (pU x.txt) := by
  obtain ⟨k, t, n, l, ds, a⟩ := x
  have h1 := hok
  have h2 := hf
  unfold Dt.ok at h1
  unfold Dt.fit at h2
  exact prF_leafs k t n l ds a hok hf (prU_all ds h1.2.2.2.2.2.1 h2.2.2.2.2) ho
theorem txt_ne (x : Dt) (hok : x.ok) (hf : x.fit) : x.txt ≠ [] := by
  obtain ⟨k, t, n, l, ds, a⟩ := x
  unfold Dt.ok at hok
  obtain ⟨hk, ht, hu, _⟩ := hok
  unfold Dt.fit at hf
  obtain ⟨f1, f6, f7, f4, ff⟩ := hf
  unfold Dt.txt
  repeat' split
  · rename_i c; exact f4 c
  · unfold quoV; simp
  · simp
  · rename_i c
    unfold numT
    rw [if_pos (f7 c)]
    split
    · simp
    · rename_i c0
      have sn := (sndB_iff hu).1 (f7 c)
      have hv0 := val_nonneg (B := 1000000000) (by omega) sn.lim
      have hv : val 1000000000 l ≠ 0 := fun e => c0 (by rw [(val_zero_iff (by omega) sn.lim sn.norm).1 e]; rfl)
      intro e
      have e2 := (List.append_eq_nil_iff.1 e).2
      have : (digs 10 (val 1000000000 l).toNat).length = 0 := by rw [← tdig_len, e2]; rfl
      have := (digs_nil (B := 10) (by omega) _).1 (List.length_eq_zero_iff.1 this)
      omega
  all_goals simp
theorem printNo_ok (x : Dt) (hok : x.ok) (hs : x.snd = false) : Fn Tryz.prog 20 [fzD x] [] (.tup [(false, [.fz (.str (bytesOf []))]), (false, [.fz (.int .i64 2)])]) [] := by
  have h1 := readSound_ok x hok
  rw [hs] at h1
  obtain ⟨k, t, n, l, ds, a⟩ := x
  refine print_Print_fn _ _ _ _ _ _ ?_
  unfold print_Print_H
  exact ⟨_, h1, fun _ => ⟨rfl, rfl⟩, fun h => absurd h (by decide)⟩
theorem printYes_ok (x : Dt) (hok : x.ok) (hs : x.snd = true) (ho : x.txt.length ≤ 98000000) : Fn Tryz.prog 20 [fzD x] [] (.tup [(false, [.fz (.str (bytesOf x.txt))]), (false, [.fz (.int .i64 0)])]) [] := by
  have h1 := readSound_ok x hok
  rw [hs] at h1
  have hf := fit_of_snd hs
  have h2 := prF_ok x hok hf ho
  have h3 := stringUP_ok x.txt (txt_ne x hok hf) (txt_good x hok hf).1 (by omega)
  obtain ⟨R, hR, hRe⟩ := exR (.tup [(false, [.fz (.str (bytesOf x.txt))]), (false, [.fz (.int .i64 0)])])
  generalize hX : x.txt = X at *
  obtain ⟨k, t, n, l, ds, a⟩ := x
  refine print_Print_fn _ _ _ _ _ _ ?_
  rw [hRe]
  unfold print_Print_H
  exact ⟨_, h1, fun h => absurd h (by decide), fun _ => ⟨_, FnC.ptr1 0 h2, _, _, h3, hR⟩⟩
end Go.Proofs.YtejefchehdifhaaGreatDoor.Ev
end
section
set_option linter.unusedVariables false
set_option maxRecDepth 100000
namespace Go.Proofs.YtejefchehdifhaaGreatDoor.Ev
open Go
def law05_answers_lv : List Nat → Keep := lvOf []
def law05_answers_H (R : TV → List Ob → Prop)  : Prop :=
  (∃ s1 : ByteArray, (∃ n1 : Int, ((Fn Tryz.prog 20 [(TV.agg [(AV.fz (FV.int .i64 1)), (AV.fz (FV.str (ByteArray.mk #[]))), (AV.fz (FV.bool false)), (AV.fz (FV.sl 1 ([] : List (List FV)))), (AV.fz (FV.sl 6 [[(FV.int .i64 4), (FV.str (ByteArray.mk #[97])), (FV.bool false), (FV.sl 1 ([] : List (List FV))), (FV.sl 6 ([] : List (List FV))), (FV.int .i64 0)]])), (AV.fz (FV.int .i64 0))])] [] (TV.tup [(false, [(AV.fz (FV.str s1))]), (false, [(AV.fz (FV.int .i64 n1))])]) []) ∧ ((((n1 == 0) = true) → (R (TV.one (AV.fz (FV.bool ((ByteArray.toList s1) == (ByteArray.toList (ByteArray.mk #[40, 97, 41])))))) [])) ∧ (((n1 == 0) = false) → (R (TV.one (AV.fz (FV.bool false))) []))))))
theorem law05_answers_fn  {r : TV} {h : List Ob} (H : law05_answers_H (fun r' h' => r' = r ∧ h' = h) ) : Fn Tryz.prog 19 [] [] r h :=
  Fn.by_tr (M := (modeOf [] [])) (lv := law05_answers_lv) (own := none) (F := Tryz.f19) (by kernel_rfl) (by kernel_rfl) (by first | decide | simp) (fun _ _ h => h) (by kernel_rfl) H
def law05_own_lv : List Nat → Keep := lvOf [([0, 1, 0, 1, 1, 1], ⟨30, 0, [], false, false⟩)]
def law05_own_S0 (d0 : Int) (d1 : ByteArray) (d2 : Bool) (d3 : List (List FV)) (d4 : List (List FV)) (d5 : Int) (i : Int) (o : List (List FV)) : St := (St.mk [TV.und, (TV.one (AV.ptr 0 0 0 0)), (TV.one (AV.ptr 1 0 0 0)), (TV.one (AV.ofl 6 2)), (TV.one (AV.fz (FV.int .i64 i))), TV.und, TV.und, TV.und, TV.und, TV.und, TV.und, TV.und, TV.und, TV.und, TV.und, TV.und, TV.und, TV.und, TV.und, TV.und, TV.und, TV.und, TV.und, TV.und, TV.und, TV.und, TV.und, TV.und, TV.und, TV.und, TV.und] [(Ob.g 39 [(AV.fz (FV.int .i64 d0)), (AV.fz (FV.str d1)), (AV.fz (FV.bool d2)), (AV.ofl 1 3), (AV.fz (FV.sl 6 d4)), (AV.fz (FV.int .i64 d5))]), (Ob.g 39 [(AV.fz (FV.int .i64 0)), (AV.fz (FV.str (ByteArray.mk #[]))), (AV.fz (FV.bool false)), (AV.ofl 1 4), (AV.ofl 6 5), (AV.fz (FV.int .i64 0))]), (Ob.f 0 6 o), (Ob.f 116 1 (([] : List (List FV)) ++ d3)), (Ob.f 0 1 ([] : List (List FV))), (Ob.f 0 6 ([] : List (List FV)))])
def law05_own_L0 (R : TV → List Ob → Prop) (d0 : Int) (d1 : ByteArray) (d2 : Bool) (d3 : List (List FV)) (d4 : List (List FV)) (d5 : Int) (i : Int) (o : List (List FV)) : Prop := LoopAt Tryz.prog (modeOf [] []) law05_own_lv Tryz.f21 none R [1, 1, 1, 0, 1, 0] (law05_own_S0 d0 d1 d2 d3 d4 d5 i o)
def law05_own_R0 (R : TV → List Ob → Prop) (d0 : Int) (d1 : ByteArray) (d2 : Bool) (d3 : List (List FV)) (d4 : List (List FV)) (d5 : Int) (i : Int) (o : List (List FV)) : Prop :=
  ((((decide (i < (((List.length d4) : Nat) : Int))) = true) → (((0 : Int) ≤ i) ∧ (∃ n8 : Int, (∃ s4 : ByteArray, (∃ b4 : Bool, (∃ es8 : List (List FV), (∃ es9 : List (List FV), (∃ n9 : Int, (((d4)[(Int.toNat i)]? = (some [(FV.int .i64 n8), (FV.str s4), (FV.bool b4), (FV.sl 1 es8), (FV.sl 6 es9), (FV.int .i64 n9)])) ∧ (∃ n10 : Int, (∃ s5 : ByteArray, (∃ b5 : Bool, (∃ es10 : List (List FV), (∃ es11 : List (List FV), (∃ n11 : Int, ((Fn Tryz.prog 21 [(TV.agg [(AV.fz (FV.int .i64 n8)), (AV.fz (FV.str s4)), (AV.fz (FV.bool b4)), (AV.fz (FV.sl 1 es8)), (AV.fz (FV.sl 6 es9)), (AV.fz (FV.int .i64 n9))])] [] (TV.agg [(AV.fz (FV.int .i64 n10)), (AV.fz (FV.str s5)), (AV.fz (FV.bool b5)), (AV.fz (FV.sl 1 es10)), (AV.fz (FV.sl 6 es11)), (AV.fz (FV.int .i64 n11))]) []) ∧ (((((List.length o) + (List.length [[(FV.int .i64 n10), (FV.str s5), (FV.bool b5), (FV.sl 1 es10), (FV.sl 6 es11), (FV.int .i64 n11)]])) * 88) ≤ 220000000000000) ∧ (law05_own_L0 R d0 d1 d2 d3 d4 d5 (IntKind.wrap .i64 (i + 1)) (o ++ [[(FV.int .i64 n10), (FV.str s5), (FV.bool b5), (FV.sl 1 es10), (FV.sl 6 es11), (FV.int .i64 n11)]]))))))))))))))))))) ∧ (((decide (i < (((List.length d4) : Nat) : Int))) = false) → (R (TV.agg [(AV.fz (FV.int .i64 d0)), (AV.fz (FV.str d1)), (AV.fz (FV.bool d2)), (AV.fz (FV.sl 1 (([] : List (List FV)) ++ d3))), (AV.fz (FV.sl 6 o)), (AV.fz (FV.int .i64 d5))]) [])))
theorem law05_own_l0 {R : TV → List Ob → Prop} {d0 : Int} {d1 : ByteArray} {d2 : Bool} {d3 : List (List FV)} {d4 : List (List FV)} {d5 : Int} {i : Int} {o : List (List FV)} (h : law05_own_R0 R d0 d1 d2 d3 d4 d5 i o) : law05_own_L0 R d0 d1 d2 d3 d4 d5 i o :=
  LoopAt.by_tr (by kernel_rfl) (by kernel_rfl) h
def law05_own_H (R : TV → List Ob → Prop) (d0 : Int) (d1 : ByteArray) (d2 : Bool) (d3 : List (List FV)) (d4 : List (List FV)) (d5 : Int) : Prop :=
  (((((List.length ([] : List (List FV))) + (List.length d3)) * 4) ≤ 220000000000000) ∧ (law05_own_L0 R d0 d1 d2 d3 d4 d5 0 ([] : List (List FV))))
theorem law05_own_fn (d0 : Int) (d1 : ByteArray) (d2 : Bool) (d3 : List (List FV)) (d4 : List (List FV)) (d5 : Int) {r : TV} {h : List Ob} (H : law05_own_H (fun r' h' => r' = r ∧ h' = h) d0 d1 d2 d3 d4 d5) : Fn Tryz.prog 21 [(TV.agg [(AV.fz (FV.int .i64 d0)), (AV.fz (FV.str d1)), (AV.fz (FV.bool d2)), (AV.fz (FV.sl 1 d3)), (AV.fz (FV.sl 6 d4)), (AV.fz (FV.int .i64 d5))])] [] r h :=
  Fn.by_tr (M := (modeOf [] [])) (lv := law05_own_lv) (own := none) (F := Tryz.f21) (by kernel_rfl) (by kernel_rfl) (by first | decide | simp) (fun _ _ h => h) (by kernel_rfl) H
def law05_light_lv : List Nat → Keep := lvOf [([0, 1, 0, 1, 1], ⟨38, 0, [], false, false⟩)]
def law05_light_S0 (d0 : Int) (d1 : ByteArray) (d2 : Bool) (d3 : List (List FV)) (d4 : List (List FV)) (d5 : Int) (depth : Int) (i : Int) : St := (St.mk [TV.und, (TV.one (AV.fz (FV.int .i64 depth))), (TV.one (AV.ptr 0 0 0 0)), TV.und, TV.und, (TV.one (AV.fz (FV.int .i64 i))), TV.und, TV.und, TV.und, TV.und, TV.und, TV.und, TV.und, TV.und, TV.und, TV.und, TV.und, TV.und, TV.und, TV.und, TV.und, TV.und, TV.und, TV.und, TV.und, TV.und, TV.und, TV.und, TV.und, TV.und] [(Ob.g 39 [(AV.fz (FV.int .i64 d0)), (AV.fz (FV.str d1)), (AV.fz (FV.bool d2)), (AV.fz (FV.sl 1 d3)), (AV.fz (FV.sl 6 d4)), (AV.fz (FV.int .i64 d5))])])
def law05_light_L0 (R : TV → List Ob → Prop) (d0 : Int) (d1 : ByteArray) (d2 : Bool) (d3 : List (List FV)) (d4 : List (List FV)) (d5 : Int) (depth : Int) (i : Int) : Prop := LoopAt Tryz.prog (modeOf [] []) law05_light_lv Tryz.f18 none R [1, 1, 0, 1, 0] (law05_light_S0 d0 d1 d2 d3 d4 d5 depth i)
def law05_light_R0 (R : TV → List Ob → Prop) (d0 : Int) (d1 : ByteArray) (d2 : Bool) (d3 : List (List FV)) (d4 : List (List FV)) (d5 : Int) (depth : Int) (i : Int) : Prop :=
  ((((decide (i < (((List.length d4) : Nat) : Int))) = true) → (((0 : Int) ≤ i) ∧ (∃ n4 : Int, (∃ s2 : ByteArray, (∃ b4 : Bool, (∃ es4 : List (List FV), (∃ es5 : List (List FV), (∃ n5 : Int, (((d4)[(Int.toNat i)]? = (some [(FV.int .i64 n4), (FV.str s2), (FV.bool b4), (FV.sl 1 es4), (FV.sl 6 es5), (FV.int .i64 n5)])) ∧ (∃ b5 : Bool, ((Fn Tryz.prog 18 [(TV.agg [(AV.fz (FV.int .i64 n4)), (AV.fz (FV.str s2)), (AV.fz (FV.bool b4)), (AV.fz (FV.sl 1 es4)), (AV.fz (FV.sl 6 es5)), (AV.fz (FV.int .i64 n5))]), (TV.one (AV.fz (FV.int .i64 (IntKind.wrap .i64 (depth + 1)))))] [] (TV.one (AV.fz (FV.bool b5))) []) ∧ ((((Bool.not b5) = true) → (R (TV.one (AV.fz (FV.bool false))) [])) ∧ (((Bool.not b5) = false) → (law05_light_L0 R d0 d1 d2 d3 d4 d5 depth (IntKind.wrap .i64 (i + 1)))))))))))))))) ∧ (((decide (i < (((List.length d4) : Nat) : Int))) = false) → (R (TV.one (AV.fz (FV.bool true))) [])))
theorem law05_light_l0 {R : TV → List Ob → Prop} {d0 : Int} {d1 : ByteArray} {d2 : Bool} {d3 : List (List FV)} {d4 : List (List FV)} {d5 : Int} {depth : Int} {i : Int} (h : law05_light_R0 R d0 d1 d2 d3 d4 d5 depth i) : law05_light_L0 R d0 d1 d2 d3 d4 d5 depth i :=
  LoopAt.by_tr (by kernel_rfl) (by kernel_rfl) h
def law05_light_H (R : TV → List Ob → Prop) (d0 : Int) (d1 : ByteArray) (d2 : Bool) (d3 : List (List FV)) (d4 : List (List FV)) (d5 : Int) (depth : Int) : Prop :=
  ((((decide ((100 : Int) < depth)) = true) → (R (TV.one (AV.fz (FV.bool false))) [])) ∧ (((decide ((100 : Int) < depth)) = false) → ((((decide ((9000 : Int) < (((List.length d4) : Nat) : Int))) = true) → (R (TV.one (AV.fz (FV.bool false))) [])) ∧ (((decide ((9000 : Int) < (((List.length d4) : Nat) : Int))) = false) → (law05_light_L0 R d0 d1 d2 d3 d4 d5 depth 0)))))
theorem law05_light_fn (d0 : Int) (d1 : ByteArray) (d2 : Bool) (d3 : List (List FV)) (d4 : List (List FV)) (d5 : Int) (depth : Int) {r : TV} {h : List Ob} (H : law05_light_H (fun r' h' => r' = r ∧ h' = h) d0 d1 d2 d3 d4 d5 depth) : Fn Tryz.prog 18 [(TV.agg [(AV.fz (FV.int .i64 d0)), (AV.fz (FV.str d1)), (AV.fz (FV.bool d2)), (AV.fz (FV.sl 1 d3)), (AV.fz (FV.sl 6 d4)), (AV.fz (FV.int .i64 d5))]), (TV.one (AV.fz (FV.int .i64 depth)))] [] r h :=
  Fn.by_tr (M := (modeOf [] [])) (lv := law05_light_lv) (own := none) (F := Tryz.f18) (by kernel_rfl) (by kernel_rfl) (by first | decide | simp) (fun _ _ h => h) (by kernel_rfl) H
end Go.Proofs.YtejefchehdifhaaGreatDoor.Ev
end
section
set_option linter.unusedVariables false
set_option linter.unusedSimpArgs false
namespace Go.Proofs.YtejefchehdifhaaGreatDoor.Ev
open Go
def listA : Dt := .mk 1 (bytesOf []) false [] [.mk 4 (bytesOf [97]) false [] [] 0] 0
theorem listA_ok : listA.ok := by
  unfold listA
  simp only [Dt.ok, Dt.oks, size_of, I64, U32, Lim]
  simp
theorem listA_snd : listA.snd = true := by decide +kernel
theorem listA_txt : listA.txt = [40, 97, 41] := by decide +kernel
theorem answers5_ok : Fn Tryz.prog 19 [] [] (fzB true) [] := by
  refine law05_answers_fn ?_
  unfold law05_answers_H
  have h := printYes_ok listA listA_ok listA_snd (by rw [listA_txt]; simp)
  rw [listA_txt] at h
  rw [show ByteArray.mk #[40, 97, 41] = bytesOf [40, 97, 41] from by decide +kernel, show ByteArray.mk #[97] = bytesOf [97] from by decide +kernel, show ByteArray.mk #[] = bytesOf [] from by decide +kernel]
  exact ⟨_, _, h, fun _ => ⟨by simp, rfl⟩, fun h => absurd h (by decide)⟩
end Go.Proofs.YtejefchehdifhaaGreatDoor.Ev
end
section
set_option linter.unusedVariables false
set_option linter.unusedSimpArgs false
namespace Go.Proofs.YtejefchehdifhaaGreatDoor.Ev
open Go
theorem own5_loop (k : Int) (t : ByteArray) (n : Bool) (l : List Int) (a : Int) (xs : List Dt) (hl : xs.length ≤ 1048576) (hp : ∀ x ∈ xs, Fn Tryz.prog 21 [fzD x] [] (fzD x) [])
    (R : TV → List Ob → Prop) (hR : R (fzD (.mk k t n l xs a)) []) : ∀ (d j : Nat), j + d = xs.length → law05_own_L0 R k t n (ints .u32 l) (Dt.rows xs) a j (Dt.rows (xs.take j))
  | 0, j, hj => by
    refine law05_own_l0 ?_
    unfold law05_own_R0
    rw [rows_len, dec_t, dec_f, List.nil_append]
    refine ⟨fun h => by omega, fun _ => ?_⟩
    rw [List.take_of_length_le (by omega)]
    unfold fzD at hR
    simp only [Dt.row, List.map_cons, List.map_nil] at hR
    exact hR
  | d + 1, j, hj => by
    have hF := hp xs[j] (List.getElem_mem _)
    have hr : (Dt.rows xs)[Int.toNat (j : Int)]? = some xs[j].row := by rw [rows_get, Int.toNat_natCast, List.getElem?_eq_getElem (by omega)]; rfl
    have ht : xs.take (j + 1) = xs.take j ++ [xs[j]] := List.take_succ_eq_append_getElem (by omega)
    have ih := own5_loop k t n l a xs hl hp R hR d (j + 1) (by omega)
    rw [ht, rows_app] at ih
    generalize xs[j] = y at hF hr ih
    obtain ⟨k', t', n', l', ys, a'⟩ := y
    unfold fzD at hF
    simp only [Dt.row, Dt.rows, List.map_cons, List.map_nil] at hF hr ih
    refine law05_own_l0 ?_
    unfold law05_own_R0
    have e : IntKind.wrap .i64 ((j : Int) + 1) = ((j + 1 : Nat) : Int) := w64 (by omega) (by omega)
    rw [rows_len, dec_t, dec_f, e]
    refine ⟨fun _ => ⟨by omega, _, _, _, _, _, _, hr, _, _, _, _, _, _, hF, ?_, ih⟩, fun h => by omega⟩
    rw [rows_len, List.length_take, List.length_singleton]
    omega
mutual
theorem own5_ok : ∀ (x : Dt), x.ok → Fn Tryz.prog 21 [fzD x] [] (fzD x) []
  | .mk k t n l xs a, hok => by
    unfold Dt.ok at hok
    obtain ⟨_, _, _, hl4, hxl, hxs, _⟩ := hok
    have hall := own5_all xs hxs
    obtain ⟨R, hR, hRe⟩ := exR (fzD (.mk k t n l xs a))
    have hR' := hR
    unfold fzD at hRe ⊢
    simp only [Dt.row, List.map_cons, List.map_nil] at hRe ⊢
    refine law05_own_fn _ _ _ _ _ _ ?_
    rw [hRe]
    clear hRe
    unfold law05_own_H
    rw [List.length_nil, ints_len]
    exact ⟨by omega, by simpa [Dt.rows] using own5_loop k t n l a xs hxl hall R hR' xs.length 0 (by omega)⟩
theorem own5_all : ∀ (xs : List Dt), Dt.oks xs → ∀ x ∈ xs, Fn Tryz.prog 21 [fzD x] [] (fzD x) []
  | [], hok => fun x hx => by cases hx
  | y :: xs, hok => fun x hx => by
    unfold Dt.oks at hok
    have h1 := own5_ok y hok.1
    have h2 := own5_all xs hok.2
    rcases List.mem_cons.1 hx with rfl | hx
    · exact h1
    · exact h2 x hx
end
theorem light5_loop (k : Int) (t : ByteArray) (n : Bool) (l : List Int) (a : Int) (xs : List Dt) (hl : xs.length ≤ 1048576) (dp : Int) (hp : ∀ x ∈ xs, ∃ b, Fn Tryz.prog 18 [fzD x, fzI .i64 (IntKind.wrap .i64 (dp + 1))] [] (fzB b) []) :
    ∀ (d j : Nat), j + d = xs.length → ∃ b, ∀ R : TV → List Ob → Prop, R (fzB b) [] → law05_light_L0 R k t n (ints .u32 l) (Dt.rows xs) a dp j
  | 0, j, hj => by
    refine ⟨true, fun R hR => law05_light_l0 ?_⟩
    unfold law05_light_R0
    rw [rows_len, dec_t, dec_f]
    exact ⟨fun h => by omega, fun _ => hR⟩
  | d + 1, j, hj => by
    obtain ⟨b, hF⟩ := hp xs[j] (List.getElem_mem _)
    have hr : (Dt.rows xs)[Int.toNat (j : Int)]? = some xs[j].row := by rw [rows_get, Int.toNat_natCast, List.getElem?_eq_getElem (by omega)]; rfl
    obtain ⟨b2, ih⟩ := light5_loop k t n l a xs hl dp hp d (j + 1) (by omega)
    generalize xs[j] = y at hF hr
    obtain ⟨k', t', n', l', ys, a'⟩ := y
    unfold fzD at hF
    simp only [Dt.row, Dt.rows, List.map_cons, List.map_nil] at hF hr
    have e : IntKind.wrap .i64 ((j : Int) + 1) = ((j + 1 : Nat) : Int) := w64 (by omega) (by omega)
    refine ⟨if b = true then b2 else false, fun R hR => law05_light_l0 ?_⟩
    unfold law05_light_R0
    rw [rows_len, dec_t, dec_f, e]
    refine ⟨fun _ => ⟨by omega, _, _, _, _, _, _, hr, b, hF, fun h => ?_, fun h => ?_⟩, fun h => by omega⟩
    · have : b = false := by simpa using h
      rw [this] at hR
      exact hR
    · have : b = true := by simpa using h
      rw [this] at hR
      exact ih R hR
mutual
theorem light5_ok : ∀ (x : Dt) (dp : Int), x.ok → ∃ b, Fn Tryz.prog 18 [fzD x, fzI .i64 dp] [] (fzB b) []
  | .mk k t n l xs a, dp, hok => by
    unfold Dt.ok at hok
    obtain ⟨_, _, _, hl4, hxl, hxs, _⟩ := hok
    have hall := light5_all xs (IntKind.wrap .i64 (dp + 1)) hxs
    obtain ⟨b, hb⟩ := light5_loop k t n l a xs hxl dp hall xs.length 0 (by omega)
    refine ⟨if 100 < dp then false else if 9000 < xs.length then false else b, law05_light_fn _ _ _ _ _ _ _ ?_⟩
    obtain ⟨R, hR, hRe⟩ := exR (fzB (if 100 < dp then false else if 9000 < xs.length then false else b))
    rw [hRe]; clear hRe
    unfold law05_light_H
    rw [rows_len]
    simp only [dec_t, dec_f]
    refine ⟨fun h => ?_, fun h => ⟨fun h2 => ?_, fun h2 => ?_⟩⟩
    · rw [if_pos h] at hR; exact hR
    · rw [if_neg h, if_pos (by omega)] at hR; exact hR
    · rw [if_neg h, if_neg (by omega)] at hR; exact hb R hR
theorem light5_all : ∀ (xs : List Dt) (dp : Int), Dt.oks xs → ∀ x ∈ xs, ∃ b, Fn Tryz.prog 18 [fzD x, fzI .i64 dp] [] (fzB b) []
  | [], dp, hok => fun x hx => by cases hx
  | y :: xs, dp, hok => fun x hx => by
    unfold Dt.oks at hok
    have h1 := light5_ok y dp hok.1
    have h2 := light5_all xs dp hok.2
    rcases List.mem_cons.1 hx with rfl | hx
    · exact h1
    · exact h2 x hx
end
end Go.Proofs.YtejefchehdifhaaGreatDoor.Ev
end
section
set_option linter.unusedVariables false
set_option maxRecDepth 100000
namespace Go.Proofs.YtejefchehdifhaaGreatDoor.Ev
open Go
def ref02_Text_lv : List Nat → Keep := lvOf [([0, 1, 0, 1, 1, 1, 1], ⟨386, 0, [], false, false⟩)]
def ref02_Text_S0 (d0 : Int) (d1 : ByteArray) (d2 : Bool) (d3 : List (List FV)) (d4 : List (List FV)) (d5 : Int) (s15 : ByteArray) (i : Int) : St := (St.mk [TV.und, (TV.one (AV.ptr 0 0 0 0)), TV.und, TV.und, TV.und, TV.und, TV.und, (TV.one (AV.fz (FV.str s15))), (TV.one (AV.fz (FV.int .i64 i))), TV.und, TV.und, TV.und, TV.und, TV.und, TV.und, TV.und, TV.und, TV.und, TV.und, TV.und, TV.und, TV.und, TV.und, TV.und, TV.und, TV.und, TV.und, TV.und, TV.und, TV.und, TV.und, TV.und, TV.und, TV.und, TV.und, TV.und, TV.und, TV.und, TV.und, TV.und, TV.und, TV.und, TV.und, TV.und, TV.und, TV.und, TV.und, TV.und, TV.und, TV.und, TV.und, TV.und, TV.und, TV.und, TV.und, TV.und, TV.und, TV.und, TV.und, TV.und, TV.und, TV.und, TV.und, TV.und, TV.und, TV.und, TV.und, TV.und, TV.und, TV.und, TV.und, TV.und, TV.und, TV.und, TV.und, TV.und, TV.und, TV.und, TV.und, TV.und, TV.und, TV.und, TV.und, TV.und, TV.und, TV.und, TV.und, TV.und, TV.und, TV.und, TV.und, TV.und] [(Ob.g 39 [(AV.fz (FV.int .i64 d0)), (AV.fz (FV.str d1)), (AV.fz (FV.bool d2)), (AV.fz (FV.sl 1 d3)), (AV.fz (FV.sl 6 d4)), (AV.fz (FV.int .i64 d5))])])
def ref02_Text_L0 (R : TV → List Ob → Prop) (d0 : Int) (d1 : ByteArray) (d2 : Bool) (d3 : List (List FV)) (d4 : List (List FV)) (d5 : Int) (s15 : ByteArray) (i : Int) : Prop := LoopAt Tryz.prog (modeOf [] []) ref02_Text_lv Tryz.f23 none R [1, 1, 1, 1, 0, 1, 0] (ref02_Text_S0 d0 d1 d2 d3 d4 d5 s15 i)
def ref02_Text_R0 (R : TV → List Ob → Prop) (d0 : Int) (d1 : ByteArray) (d2 : Bool) (d3 : List (List FV)) (d4 : List (List FV)) (d5 : Int) (s15 : ByteArray) (i : Int) : Prop :=
  ((((decide (i < (((List.length d4) : Nat) : Int))) = true) → ((((decide ((0 : Int) < i)) = true) → ((((ByteArray.size s15) + (ByteArray.size (ByteArray.mk #[32]))) ≤ 9223372036854775807) ∧ ((((d0 == 2) = true) → ((((i == (IntKind.wrap .i64 ((((List.length d4) : Nat) : Int) - 1))) = true) → ((((ByteArray.size (s15 ++ (ByteArray.mk #[32]))) + (ByteArray.size (ByteArray.mk #[46, 32]))) ≤ 9223372036854775807) ∧ (((0 : Int) ≤ i) ∧ (∃ n39 : Int, (∃ s40 : ByteArray, (∃ b20 : Bool, (∃ es37 : List (List FV), (∃ es38 : List (List FV), (∃ n40 : Int, (((d4)[(Int.toNat i)]? = (some [(FV.int .i64 n39), (FV.str s40), (FV.bool b20), (FV.sl 1 es37), (FV.sl 6 es38), (FV.int .i64 n40)])) ∧ (∃ s41 : ByteArray, ((Fn Tryz.prog 23 [(TV.agg [(AV.fz (FV.int .i64 n39)), (AV.fz (FV.str s40)), (AV.fz (FV.bool b20)), (AV.fz (FV.sl 1 es37)), (AV.fz (FV.sl 6 es38)), (AV.fz (FV.int .i64 n40))])] [] (TV.one (AV.fz (FV.str s41))) []) ∧ ((((ByteArray.size ((s15 ++ (ByteArray.mk #[32])) ++ (ByteArray.mk #[46, 32]))) + (ByteArray.size s41)) ≤ 9223372036854775807) ∧ (ref02_Text_L0 R d0 d1 d2 d3 d4 d5 (((s15 ++ (ByteArray.mk #[32])) ++ (ByteArray.mk #[46, 32])) ++ s41) (IntKind.wrap .i64 (i + 1)))))))))))))))) ∧ (((i == (IntKind.wrap .i64 ((((List.length d4) : Nat) : Int) - 1))) = false) → (((0 : Int) ≤ i) ∧ (∃ n41 : Int, (∃ s42 : ByteArray, (∃ b21 : Bool, (∃ es39 : List (List FV), (∃ es40 : List (List FV), (∃ n42 : Int, (((d4)[(Int.toNat i)]? = (some [(FV.int .i64 n41), (FV.str s42), (FV.bool b21), (FV.sl 1 es39), (FV.sl 6 es40), (FV.int .i64 n42)])) ∧ (∃ s43 : ByteArray, ((Fn Tryz.prog 23 [(TV.agg [(AV.fz (FV.int .i64 n41)), (AV.fz (FV.str s42)), (AV.fz (FV.bool b21)), (AV.fz (FV.sl 1 es39)), (AV.fz (FV.sl 6 es40)), (AV.fz (FV.int .i64 n42))])] [] (TV.one (AV.fz (FV.str s43))) []) ∧ ((((ByteArray.size (s15 ++ (ByteArray.mk #[32]))) + (ByteArray.size s43)) ≤ 9223372036854775807) ∧ (ref02_Text_L0 R d0 d1 d2 d3 d4 d5 ((s15 ++ (ByteArray.mk #[32])) ++ s43) (IntKind.wrap .i64 (i + 1))))))))))))))))) ∧ (((d0 == 2) = false) → (((0 : Int) ≤ i) ∧ (∃ n43 : Int, (∃ s44 : ByteArray, (∃ b22 : Bool, (∃ es41 : List (List FV), (∃ es42 : List (List FV), (∃ n44 : Int, (((d4)[(Int.toNat i)]? = (some [(FV.int .i64 n43), (FV.str s44), (FV.bool b22), (FV.sl 1 es41), (FV.sl 6 es42), (FV.int .i64 n44)])) ∧ (∃ s45 : ByteArray, ((Fn Tryz.prog 23 [(TV.agg [(AV.fz (FV.int .i64 n43)), (AV.fz (FV.str s44)), (AV.fz (FV.bool b22)), (AV.fz (FV.sl 1 es41)), (AV.fz (FV.sl 6 es42)), (AV.fz (FV.int .i64 n44))])] [] (TV.one (AV.fz (FV.str s45))) []) ∧ ((((ByteArray.size (s15 ++ (ByteArray.mk #[32]))) + (ByteArray.size s45)) ≤ 9223372036854775807) ∧ (ref02_Text_L0 R d0 d1 d2 d3 d4 d5 ((s15 ++ (ByteArray.mk #[32])) ++ s45) (IntKind.wrap .i64 (i + 1)))))))))))))))))) ∧ (((decide ((0 : Int) < i)) = false) → ((((d0 == 2) = true) → ((((i == (IntKind.wrap .i64 ((((List.length d4) : Nat) : Int) - 1))) = true) → ((((ByteArray.size s15) + (ByteArray.size (ByteArray.mk #[46, 32]))) ≤ 9223372036854775807) ∧ (((0 : Int) ≤ i) ∧ (∃ n45 : Int, (∃ s46 : ByteArray, (∃ b23 : Bool, (∃ es43 : List (List FV), (∃ es44 : List (List FV), (∃ n46 : Int, (((d4)[(Int.toNat i)]? = (some [(FV.int .i64 n45), (FV.str s46), (FV.bool b23), (FV.sl 1 es43), (FV.sl 6 es44), (FV.int .i64 n46)])) ∧ (∃ s47 : ByteArray, ((Fn Tryz.prog 23 [(TV.agg [(AV.fz (FV.int .i64 n45)), (AV.fz (FV.str s46)), (AV.fz (FV.bool b23)), (AV.fz (FV.sl 1 es43)), (AV.fz (FV.sl 6 es44)), (AV.fz (FV.int .i64 n46))])] [] (TV.one (AV.fz (FV.str s47))) []) ∧ ((((ByteArray.size (s15 ++ (ByteArray.mk #[46, 32]))) + (ByteArray.size s47)) ≤ 9223372036854775807) ∧ (ref02_Text_L0 R d0 d1 d2 d3 d4 d5 ((s15 ++ (ByteArray.mk #[46, 32])) ++ s47) (IntKind.wrap .i64 (i + 1)))))))))))))))) ∧ (((i == (IntKind.wrap .i64 ((((List.length d4) : Nat) : Int) - 1))) = false) → (((0 : Int) ≤ i) ∧ (∃ n47 : Int, (∃ s48 : ByteArray, (∃ b24 : Bool, (∃ es45 : List (List FV), (∃ es46 : List (List FV), (∃ n48 : Int, (((d4)[(Int.toNat i)]? = (some [(FV.int .i64 n47), (FV.str s48), (FV.bool b24), (FV.sl 1 es45), (FV.sl 6 es46), (FV.int .i64 n48)])) ∧ (∃ s49 : ByteArray, ((Fn Tryz.prog 23 [(TV.agg [(AV.fz (FV.int .i64 n47)), (AV.fz (FV.str s48)), (AV.fz (FV.bool b24)), (AV.fz (FV.sl 1 es45)), (AV.fz (FV.sl 6 es46)), (AV.fz (FV.int .i64 n48))])] [] (TV.one (AV.fz (FV.str s49))) []) ∧ ((((ByteArray.size s15) + (ByteArray.size s49)) ≤ 9223372036854775807) ∧ (ref02_Text_L0 R d0 d1 d2 d3 d4 d5 (s15 ++ s49) (IntKind.wrap .i64 (i + 1))))))))))))))))) ∧ (((d0 == 2) = false) → (((0 : Int) ≤ i) ∧ (∃ n49 : Int, (∃ s50 : ByteArray, (∃ b25 : Bool, (∃ es47 : List (List FV), (∃ es48 : List (List FV), (∃ n50 : Int, (((d4)[(Int.toNat i)]? = (some [(FV.int .i64 n49), (FV.str s50), (FV.bool b25), (FV.sl 1 es47), (FV.sl 6 es48), (FV.int .i64 n50)])) ∧ (∃ s51 : ByteArray, ((Fn Tryz.prog 23 [(TV.agg [(AV.fz (FV.int .i64 n49)), (AV.fz (FV.str s50)), (AV.fz (FV.bool b25)), (AV.fz (FV.sl 1 es47)), (AV.fz (FV.sl 6 es48)), (AV.fz (FV.int .i64 n50))])] [] (TV.one (AV.fz (FV.str s51))) []) ∧ ((((ByteArray.size s15) + (ByteArray.size s51)) ≤ 9223372036854775807) ∧ (ref02_Text_L0 R d0 d1 d2 d3 d4 d5 (s15 ++ s51) (IntKind.wrap .i64 (i + 1))))))))))))))))))) ∧ (((decide (i < (((List.length d4) : Nat) : Int))) = false) → ((((ByteArray.size s15) + (ByteArray.size (ByteArray.mk #[41]))) ≤ 9223372036854775807) ∧ (R (TV.one (AV.fz (FV.str (s15 ++ (ByteArray.mk #[41]))))) []))))
theorem ref02_Text_l0 {R : TV → List Ob → Prop} {d0 : Int} {d1 : ByteArray} {d2 : Bool} {d3 : List (List FV)} {d4 : List (List FV)} {d5 : Int} {s15 : ByteArray} {i : Int} (h : ref02_Text_R0 R d0 d1 d2 d3 d4 d5 s15 i) : ref02_Text_L0 R d0 d1 d2 d3 d4 d5 s15 i :=
  LoopAt.by_tr (by kernel_rfl) (by kernel_rfl) h
def ref02_Text_H (R : TV → List Ob → Prop) (d0 : Int) (d1 : ByteArray) (d2 : Bool) (d3 : List (List FV)) (d4 : List (List FV)) (d5 : Int) : Prop :=
  ((((d0 == 4) = true) → (R (TV.one (AV.fz (FV.str d1))) [])) ∧ (((d0 == 4) = false) → ((((d0 == 5) = true) → (∃ s40 : ByteArray, ((Fn Tryz.prog 25 [(TV.one (AV.fz (FV.str d1)))] [] (TV.one (AV.fz (FV.str s40))) []) ∧ (R (TV.one (AV.fz (FV.str s40))) [])))) ∧ (((d0 == 5) = false) → ((((d0 == 6) = true) → (∃ es37 : List (List FV), (∃ n39 : Int, ((Fn Tryz.prog 30 [(TV.one (AV.fz (FV.sl 1 (List.map (fun b21 => [(FV.int .u8 (((UInt8.toNat b21) : Nat) : Int))]) (Array.toList (ByteArray.data d1))))))] [] (TV.tup [(false, [(AV.fz (FV.sl 1 es37))]), (false, [(AV.fz (FV.int .i64 n39))])]) []) ∧ (((0 : Int) ≤ 0) ∧ (∃ n40 : Int, (((es37)[(Int.toNat 0)]? = (some [(FV.int .i64 n40)])) ∧ (∃ s41 : ByteArray, (∃ n41 : Int, ((Fn Tryz.prog 61 [(TV.one (AV.fz (FV.int .i64 n40)))] [] (TV.tup [(false, [(AV.fz (FV.str s41))]), (false, [(AV.fz (FV.int .i64 n41))])]) []) ∧ ((((ByteArray.size (ByteArray.mk #[35, 92])) + (ByteArray.size s41)) ≤ 9223372036854775807) ∧ (R (TV.one (AV.fz (FV.str ((ByteArray.mk #[35, 92]) ++ s41)))) [])))))))))))) ∧ (((d0 == 6) = false) → ((((d0 == 7) = true) → (∃ s42 : ByteArray, ((Fn Tryz.prog 62 [(TV.agg [(AV.fz (FV.bool d2)), (AV.fz (FV.sl 1 d3))])] [] (TV.one (AV.fz (FV.str s42))) []) ∧ (R (TV.one (AV.fz (FV.str s42))) [])))) ∧ (((d0 == 7) = false) → ((((d0 == 8) = true) → (R (TV.one (AV.fz (FV.str (ByteArray.mk #[35, 116])))) [])) ∧ (((d0 == 8) = false) → ((((d0 == 9) = true) → (R (TV.one (AV.fz (FV.str (ByteArray.mk #[35, 102])))) [])) ∧ (((d0 == 9) = false) → ((((d0 == 10) = true) → (R (TV.one (AV.fz (FV.str (ByteArray.mk #[35, 60, 118, 111, 105, 100, 62])))) [])) ∧ (((d0 == 10) = false) → ((((d0 == 11) = true) → ((((ByteArray.size (ByteArray.mk #[35, 60])) + (ByteArray.size d1)) ≤ 9223372036854775807) ∧ ((((ByteArray.size ((ByteArray.mk #[35, 60]) ++ d1)) + (ByteArray.size (ByteArray.mk #[62]))) ≤ 9223372036854775807) ∧ (R (TV.one (AV.fz (FV.str (((ByteArray.mk #[35, 60]) ++ d1) ++ (ByteArray.mk #[62]))))) [])))) ∧ (((d0 == 11) = false) → ((((d0 == 3) = true) → (ref02_Text_L0 R d0 d1 d2 d3 d4 d5 (ByteArray.mk #[35, 40]) 0)) ∧ (((d0 == 3) = false) → (ref02_Text_L0 R d0 d1 d2 d3 d4 d5 (ByteArray.mk #[40]) 0)))))))))))))))))))
theorem ref02_Text_fn (d0 : Int) (d1 : ByteArray) (d2 : Bool) (d3 : List (List FV)) (d4 : List (List FV)) (d5 : Int) {r : TV} {h : List Ob} (H : ref02_Text_H (fun r' h' => r' = r ∧ h' = h) d0 d1 d2 d3 d4 d5) : Fn Tryz.prog 23 [(TV.agg [(AV.fz (FV.int .i64 d0)), (AV.fz (FV.str d1)), (AV.fz (FV.bool d2)), (AV.fz (FV.sl 1 d3)), (AV.fz (FV.sl 6 d4)), (AV.fz (FV.int .i64 d5))])] [] r h :=
  Fn.by_tr (M := (modeOf [] [])) (lv := ref02_Text_lv) (own := none) (F := Tryz.f23) (by kernel_rfl) (by kernel_rfl) (by first | decide | simp) (fun _ _ h => h) (by kernel_rfl) H
end Go.Proofs.YtejefchehdifhaaGreatDoor.Ev
end
section
set_option linter.unusedVariables false
set_option linter.unusedSimpArgs false
namespace Go.Proofs.YtejefchehdifhaaGreatDoor.Ev
open Go
theorem rText_lp (k : Int) (t : ByteArray) (n : Bool) (l : List Int) (a : Int) (xs : List Dt) (hxl : xs.length ≤ 1048576)
    (hp : ∀ x ∈ xs, x.txt.length ≤ 98000000 → Fn Tryz.prog 23 [fzD x] [] (.one (.fz (.str (bytesOf x.txt)))) []) (R : TV → List Ob → Prop) : ∀ (d j : Nat) (out : List Int), j + d = xs.length →
    out.length + (Dt.txts (decide (k = 2)) (decide (j = 0)) (xs.drop j)).length ≤ 98000000 → R (.one (.fz (.str (bytesOf (out ++ Dt.txts (decide (k = 2)) (decide (j = 0)) (xs.drop j)))))) [] → ref02_Text_L0 R k t n (ints .u32 l) (Dt.rows xs) a (bytesOf out) j := by
  intro d
  induction d with
  | zero =>
    intro j out hj ho hR
    refine ref02_Text_l0 ?_
    unfold ref02_Text_R0
    rw [rows_len, show ByteArray.mk #[41] = bytesOf [41] from by decide +kernel, app_of, size_of, size_of]
    rw [List.drop_eq_nil_of_le (by omega)] at ho hR
    unfold Dt.txts at ho hR
    refine ⟨fun h => ?_, fun _ => ⟨by simp only [List.length_cons, List.length_nil]; omega, hR⟩⟩
    have := of_decide_eq_true h
    omega
  | succ d ih =>
    intro j out hj ho hR
    refine ref02_Text_l0 ?_
    unfold ref02_Text_R0
    rw [rows_len]
    have hlt : j < xs.length := by omega
    rw [List.drop_eq_getElem_cons hlt] at ho hR
    have hg : (Dt.rows xs)[Int.toNat (j : Int)]? = some xs[j].row := by rw [rows_get, Int.toNat_natCast, List.getElem?_eq_getElem hlt]; rfl
    have hpx := hp xs[j] (List.getElem_mem _)
    generalize hx : xs[j] = x at *
    obtain ⟨k', t', n', l', ds', a'⟩ := x
    have hE : ∀ E : List Int, E.length ≤ 10 → Dt.txts (decide (k = 2)) (decide (j = 0)) (.mk k' t' n' l' ds' a' :: xs.drop (j + 1)) = E ++ ((Dt.mk k' t' n' l' ds' a').txt ++ Dt.txts (decide (k = 2)) false (xs.drop (j + 1))) →
        (0 : Int) ≤ (j : Int) ∧ ∃ n39 : Int, ∃ s40 : ByteArray, ∃ b20 : Bool, ∃ es37 : List (List FV), ∃ es38 : List (List FV), ∃ n40 : Int, (Dt.rows xs)[Int.toNat (j : Int)]? = some [.int .i64 n39, .str s40, .bool b20, .sl 1 es37, .sl 6 es38, .int .i64 n40] ∧
          ∃ s41 : ByteArray, (Fn Tryz.prog 23 [.agg [.fz (.int .i64 n39), .fz (.str s40), .fz (.bool b20), .fz (.sl 1 es37), .fz (.sl 6 es38), .fz (.int .i64 n40)]] [] (.one (.fz (.str s41))) []) ∧ ((ByteArray.size (bytesOf (out ++ E)) + ByteArray.size s41) ≤ 9223372036854775807) ∧
            ref02_Text_L0 R k t n (ints .u32 l) (Dt.rows xs) a (bytesOf (out ++ E) ++ s41) (IntKind.wrap .i64 ((j : Int) + 1)) := fun E hE10 e => by
      rw [e] at ho hR
      simp only [List.length_append] at ho
      refine ⟨by omega, _, _, _, _, _, _, hg, _, hpx (by omega), by rw [size_of, size_of]; simp only [List.length_append]; omega, ?_⟩
      rw [w64 (by omega) (by omega), app_of]
      refine ih (j + 1) (out ++ E ++ (Dt.mk k' t' n' l' ds' a').txt) (by omega) ?_ ?_
      · rw [show decide (j + 1 = 0) = false from rfl]
        simp only [List.length_append]; omega
      · rw [show decide (j + 1 = 0) = false from rfl]
        simpa [List.append_assoc] using hR
    have hlast : xs.drop (j + 1) = [] ↔ j + 1 = xs.length := by
      rw [List.drop_eq_nil_iff]; omega
    rw [show ByteArray.mk #[46, 32] = bytesOf [46, 32] from by decide +kernel, show ByteArray.mk #[32] = bytesOf [32] from by decide +kernel, w64 (n := (xs.length : Int) - 1) (by omega) (by omega)]
    simp only [app_of, size_of, beq_t, beq_f]
    refine ⟨fun _ => ⟨fun h0 => ?_, fun h0 => ?_⟩, fun h => absurd hlt (by have := of_decide_eq_false h; omega)⟩
    · have j0 : ¬ j = 0 := by have := of_decide_eq_true h0; omega
      refine ⟨by simp only [List.length_cons, List.length_nil]; omega, fun hd => ⟨fun hl => ⟨by simp only [List.length_append, List.length_cons, List.length_nil]; omega, ?_⟩, fun hl => ?_⟩, fun hd => ?_⟩
      · have e := hE ([32] ++ [46, 32]) (by simp) (by rw [txts_cons, if_neg (by simp [j0]), if_pos ⟨by simp [hd], hlast.2 (by omega)⟩]; simp)
        rw [← List.append_assoc] at e
        simp only [size_of] at e
        exact e
      · have e := hE [32] (by simp) (by rw [txts_cons, if_neg (by simp [j0]), if_neg (fun c => by have := hlast.1 c.2; omega)]; simp)
        simp only [size_of] at e
        exact e
      · have e := hE [32] (by simp) (by rw [txts_cons, if_neg (by simp [j0]), if_neg (fun c => hd (of_decide_eq_true c.1))]; simp)
        simp only [size_of] at e
        exact e
    · have j0 : j = 0 := by have := of_decide_eq_false h0; omega
      refine ⟨fun hd => ⟨fun hl => ⟨by simp only [List.length_cons, List.length_nil]; omega, ?_⟩, fun hl => ?_⟩, fun hd => ?_⟩
      · have e := hE [46, 32] (by simp) (by rw [txts_cons, if_pos (by simp [j0]), if_pos ⟨by simp [hd], hlast.2 (by omega)⟩]; simp)
        simp only [size_of] at e
        exact e
      · have e := hE [] (by simp) (by rw [txts_cons, if_pos (by simp [j0]), if_neg (fun c => by have := hlast.1 c.2; omega)]; simp)
        rw [List.append_nil] at e
        simp only [size_of] at e
        exact e
      · have e := hE [] (by simp) (by rw [txts_cons, if_pos (by simp [j0]), if_neg (fun c => hd (of_decide_eq_true c.1))]; simp)
        rw [List.append_nil] at e
        simp only [size_of] at e
        exact e
mutual
theorem rText_ok : ∀ (x : Dt), x.ok → x.fit → x.txt.length ≤ 98000000 → Fn Tryz.prog 23 [fzD x] [] (.one (.fz (.str (bytesOf x.txt)))) []
  | .mk k t n l ds a, hok, hf, ho => by
    unfold Dt.ok at hok
    unfold Dt.fit at hf
    obtain ⟨hk, ht, hu, hl, hdl, hds, ha⟩ := hok
    obtain ⟨f1, f6, f7, f4, ff⟩ := hf
    have hall := rText_all ds hds ff
    obtain ⟨T, hT, rfl⟩ : ∃ T, Bytes T ∧ t = bytesOf T := ⟨bs t, bs_bytes t, (of_bs t).symm⟩
    rw [size_of] at ht
    rw [bs_of hT] at f6 f4
    refine ref02_Text_fn _ _ _ _ _ _ ?_
    obtain ⟨R, hR, hRe⟩ := exR (.one (.fz (.str (bytesOf (Dt.mk k (bytesOf T) n l ds a).txt)))); rw [hRe]; clear hRe
    unfold ref02_Text_H
    simp only [beq_t, beq_f]
    refine ⟨fun h => ?_, fun c4 => ⟨fun h => ?_, fun c5 => ⟨fun h => ?_, fun c6 => ⟨fun h => ?_, fun c7 => ⟨fun h => ?_, fun c8 => ⟨fun h => ?_, fun c9 => ⟨fun h => ?_, fun c10 => ⟨fun h => ?_, fun c11 => ⟨fun h => ?_, fun c3 => ?_⟩⟩⟩⟩⟩⟩⟩⟩⟩
    · subst h
      rw [txt_4, bs_of hT] at hR; exact hR
    · subst h
      rw [txt_5, bs_of hT] at hR
      exact ⟨_, rQuoted_ok T hT (by omega), hR⟩
    · subst h
      obtain ⟨c, hc, e⟩ := f6 rfl
      subst e
      rw [txt_6, bs_of hT, deR_utfB hc] at hR
      have hC := rChars_ok (utfB c) hT (by omega)
      have he : enc [c] = utfB c := by simp [enc]
      have hs : Scals [c] := by intro x hx; simp at hx; rw [hx]; exact hc
      have hcl : chL (utfB c) = [c] := by rw [← he, chL_enc hs]
      rw [hcl] at hC
      obtain ⟨n1, n2⟩ := nameL_bytes hc
      rw [map_bs, bs_of hT]
      refine ⟨_, _, hC, by omega, c, rfl, _, _, rName_ok c hc, ?_, ?_⟩
      · rw [size_of, show (ByteArray.mk #[35, 92]).size = 2 from rfl]; omega
      · rw [show ByteArray.mk #[35, 92] = bytesOf [35, 92] from by decide +kernel, app_of]; exact hR
    · subst h
      have hs := f7 rfl
      have hl64 : l.length ≤ 64 := by
        unfold sndB at hs
        simp only [Bool.and_eq_true, decide_eq_true_eq] at hs
        exact hs.1.1
      rw [txt_7] at hR
      exact ⟨_, rtext_ok n l hu (by omega), hR⟩
    · subst h
      rw [txt_8] at hR
      rw [show ByteArray.mk #[35, 116] = bytesOf [35, 116] from by decide +kernel]; exact hR
    · subst h
      rw [txt_9] at hR
      rw [show ByteArray.mk #[35, 102] = bytesOf [35, 102] from by decide +kernel]; exact hR
    · subst h
      rw [txt_10] at hR
      rw [show ByteArray.mk #[35, 60, 118, 111, 105, 100, 62] = bytesOf [35, 60, 118, 111, 105, 100, 62] from by decide +kernel]; exact hR
    · subst h
      rw [txt_11, bs_of hT] at hR
      rw [show ByteArray.mk #[35, 60] = bytesOf [35, 60] from by decide +kernel, show ByteArray.mk #[62] = bytesOf [62] from by decide +kernel, app_of, app_of, size_of, size_of, size_of, size_of]
      exact ⟨by simp only [List.length_cons, List.length_nil]; omega, by simp only [List.length_append, List.length_cons, List.length_nil]; omega, hR⟩
    · subst h
      rw [show ByteArray.mk #[35, 40] = bytesOf [35, 40] from by decide +kernel]
      rw [txt_3] at hR ho
      exact rText_lp 3 _ n l a ds hdl hall R ds.length 0 [35, 40] (by omega) (by simp only [List.length_cons, List.length_nil, List.drop_zero] at ho ⊢; simp; omega) (by simpa using hR)
    · rw [show ByteArray.mk #[40] = bytesOf [40] from by decide +kernel]
      obtain h | h : k = 1 ∨ k = 2 := by omega
      · subst h
        rw [txt_1] at hR ho
        exact rText_lp 1 _ n l a ds hdl hall R ds.length 0 [40] (by omega) (by simp only [List.length_cons, List.length_nil, List.drop_zero] at ho ⊢; simp; omega) (by simpa using hR)
      · subst h
        rw [txt_2] at hR ho
        exact rText_lp 2 _ n l a ds hdl hall R ds.length 0 [40] (by omega) (by simp only [List.length_cons, List.length_nil, List.drop_zero] at ho ⊢; simp; omega) (by simpa using hR)
theorem rText_all : ∀ (xs : List Dt), Dt.oks xs → Dt.fits xs → ∀ x ∈ xs, x.txt.length ≤ 98000000 → Fn Tryz.prog 23 [fzD x] [] (.one (.fz (.str (bytesOf x.txt)))) []
  | [], _, _ => fun x hx => by cases hx
  | y :: xs, hok, hf => fun x hx => by
    unfold Dt.oks at hok
    unfold Dt.fits at hf
    have h1 := rText_ok y hok.1 hf.1
    have h2 := rText_all xs hok.2 hf.2
    rcases List.mem_cons.1 hx with rfl | hx
    · exact h1
    · exact h2 x hx
end
end Go.Proofs.YtejefchehdifhaaGreatDoor.Ev
end
section
set_option linter.unusedVariables false
set_option maxRecDepth 100000
namespace Go.Proofs.YtejefchehdifhaaGreatDoor.Ev
open Go
def law05_PrintTexts_lv : List Nat → Keep := lvOf []
def law05_PrintTexts_H (R : TV → List Ob → Prop) (d0 : Int) (d1 : ByteArray) (d2 : Bool) (d3 : List (List FV)) (d4 : List (List FV)) (d5 : Int) : Prop :=
  (∃ b6 : Bool, ((Fn Tryz.prog 18 [(TV.agg [(AV.fz (FV.int .i64 d0)), (AV.fz (FV.str d1)), (AV.fz (FV.bool d2)), (AV.fz (FV.sl 1 d3)), (AV.fz (FV.sl 6 d4)), (AV.fz (FV.int .i64 d5))]), (TV.one (AV.fz (FV.int .i64 1)))] [] (TV.one (AV.fz (FV.bool b6))) []) ∧ ((((Bool.not b6) = true) → (∃ b7 : Bool, ((Fn Tryz.prog 19 [] [] (TV.one (AV.fz (FV.bool b7))) []) ∧ (R (TV.one (AV.fz (FV.bool b7))) [])))) ∧ (((Bool.not b6) = false) → (∃ n3 : Int, (∃ s3 : ByteArray, (∃ b8 : Bool, (∃ es2 : List (List FV), (∃ es3 : List (List FV), (∃ n4 : Int, ((Fn Tryz.prog 21 [(TV.agg [(AV.fz (FV.int .i64 d0)), (AV.fz (FV.str d1)), (AV.fz (FV.bool d2)), (AV.fz (FV.sl 1 d3)), (AV.fz (FV.sl 6 d4)), (AV.fz (FV.int .i64 d5))])] [] (TV.agg [(AV.fz (FV.int .i64 n3)), (AV.fz (FV.str s3)), (AV.fz (FV.bool b8)), (AV.fz (FV.sl 1 es2)), (AV.fz (FV.sl 6 es3)), (AV.fz (FV.int .i64 n4))]) []) ∧ (∃ s4 : ByteArray, (∃ n5 : Int, ((Fn Tryz.prog 20 [(TV.agg [(AV.fz (FV.int .i64 n3)), (AV.fz (FV.str s3)), (AV.fz (FV.bool b8)), (AV.fz (FV.sl 1 es2)), (AV.fz (FV.sl 6 es3)), (AV.fz (FV.int .i64 n4))])] [] (TV.tup [(false, [(AV.fz (FV.str s4))]), (false, [(AV.fz (FV.int .i64 n5))])]) []) ∧ (∃ b9 : Bool, ((Fn Tryz.prog 22 [(TV.agg [(AV.fz (FV.int .i64 d0)), (AV.fz (FV.str d1)), (AV.fz (FV.bool d2)), (AV.fz (FV.sl 1 d3)), (AV.fz (FV.sl 6 d4)), (AV.fz (FV.int .i64 d5))])] [] (TV.one (AV.fz (FV.bool b9))) []) ∧ ((((Bool.not b9) = true) → (∃ b10 : Bool, ((Fn Tryz.prog 19 [] [] (TV.one (AV.fz (FV.bool b10))) []) ∧ (((b10 = true) → ((((n5 == 2) = true) → (R (TV.one (AV.fz (FV.bool ((ByteArray.toList s4) == (ByteArray.toList (ByteArray.mk #[])))))) [])) ∧ (((n5 == 2) = false) → (R (TV.one (AV.fz (FV.bool false))) [])))) ∧ ((b10 = false) → (R (TV.one (AV.fz (FV.bool false))) [])))))) ∧ (((Bool.not b9) = false) → (∃ b11 : Bool, ((Fn Tryz.prog 19 [] [] (TV.one (AV.fz (FV.bool b11))) []) ∧ (((b11 = true) → ((((n5 == 0) = true) → (∃ s5 : ByteArray, ((Fn Tryz.prog 23 [(TV.agg [(AV.fz (FV.int .i64 d0)), (AV.fz (FV.str d1)), (AV.fz (FV.bool d2)), (AV.fz (FV.sl 1 d3)), (AV.fz (FV.sl 6 d4)), (AV.fz (FV.int .i64 d5))])] [] (TV.one (AV.fz (FV.str s5))) []) ∧ (R (TV.one (AV.fz (FV.bool ((ByteArray.toList s4) == (ByteArray.toList s5))))) [])))) ∧ (((n5 == 0) = false) → (R (TV.one (AV.fz (FV.bool false))) [])))) ∧ ((b11 = false) → (R (TV.one (AV.fz (FV.bool false))) [])))))))))))))))))))))))
theorem law05_PrintTexts_fn (d0 : Int) (d1 : ByteArray) (d2 : Bool) (d3 : List (List FV)) (d4 : List (List FV)) (d5 : Int) {r : TV} {h : List Ob} (H : law05_PrintTexts_H (fun r' h' => r' = r ∧ h' = h) d0 d1 d2 d3 d4 d5) : Fn Tryz.prog 5 [(TV.agg [(AV.fz (FV.int .i64 d0)), (AV.fz (FV.str d1)), (AV.fz (FV.bool d2)), (AV.fz (FV.sl 1 d3)), (AV.fz (FV.sl 6 d4)), (AV.fz (FV.int .i64 d5))])] [] r h :=
  Fn.by_tr (M := (modeOf [] [])) (lv := law05_PrintTexts_lv) (own := none) (F := Tryz.f5) (by kernel_rfl) (by kernel_rfl) (by first | decide | simp) (fun _ _ h => h) (by kernel_rfl) H
end Go.Proofs.YtejefchehdifhaaGreatDoor.Ev
end
section
set_option linter.unusedVariables false
namespace Go.Proofs.YtejefchehdifhaaGreatDoor.Ev
open Go
theorem law_PrintTexts (xs : List TV) (h : TyAll Tryz.prog [39] xs) (hb : bulkA xs ≤ 1048576) : Fn Tryz.prog 5 xs [] (.one (.fz (.bool true))) [] := by
  cases h with
  | cons h1 h =>
  cases h
  obtain ⟨x, rfl, hok, hbk⟩ := tyV_Dt h1 (by simp only [bulkA] at hb; omega)
  obtain ⟨b, hL⟩ := light5_ok x 1 hok
  have hO := own5_ok x hok
  have hS := rSound_ok x hok
  obtain ⟨R, hR, hRe⟩ := exR (fzB true)
  cases hs : x.snd with
  | false =>
    have hP := printNo_ok x hok hs
    rw [hs] at hS
    obtain ⟨k, t, n, l, ds, a⟩ := x
    refine law05_PrintTexts_fn _ _ _ _ _ _ ?_
    rw [hRe]; clear hRe
    unfold law05_PrintTexts_H
    refine ⟨b, hL, fun _ => ⟨_, answers5_ok, hR⟩, fun _ => ⟨_, _, _, _, _, _, hO, _, _, hP, _, hS, fun _ => ⟨_, answers5_ok, fun _ => ⟨fun _ => ?_, fun h => absurd h (by decide)⟩, fun h => absurd h (by decide)⟩, fun h => absurd h (by decide)⟩⟩
    rw [show ByteArray.mk #[] = bytesOf [] from by decide +kernel, show ((bytesOf []).toList == (bytesOf []).toList) = true by simp]
    exact hR
  | true =>
    have hf := fit_of_snd hs
    have hg := (txt_good x hok hf).2
    have hP := printYes_ok x hok hs (by omega)
    have hT := rText_ok x hok hf (by omega)
    rw [hs] at hS
    generalize x.txt = X at *
    obtain ⟨k, t, n, l, ds, a⟩ := x
    refine law05_PrintTexts_fn _ _ _ _ _ _ ?_
    rw [hRe]; clear hRe
    unfold law05_PrintTexts_H
    refine ⟨b, hL, fun _ => ⟨_, answers5_ok, hR⟩, fun _ => ⟨_, _, _, _, _, _, hO, _, _, hP, _, hS, fun h => absurd h (by decide), fun _ => ⟨_, answers5_ok, fun _ => ⟨fun _ => ⟨_, hT, ?_⟩, fun h => absurd h (by decide)⟩, fun h => absurd h (by decide)⟩⟩⟩
    rw [show ((bytesOf X).toList == (bytesOf X).toList) = true by simp]
    exact hR
end Go.Proofs.YtejefchehdifhaaGreatDoor.Ev
end
section
set_option linter.unusedVariables false
namespace Go.Proofs.YtejefchehdifhaaGreatDoor.printTexts
open Go.ChangeShapes Go.WideShapes Go.ChangeAt Go.RowKit Go.Joins
open Go.Proofs.YtejefchehdifhaaGreatDoor.Ev (Ty TyAll TabAt Glob tabs closedB openedAll trodAll_below tabAt_ints_of tabAt_ifc_of tabAt_flat_of law_PrintTexts returnsIn_upto witness_upto)
theorem own : ownKnob Tryz.prog.godebug = none := by kernel_rfl
theorem laidOut : laidOutB Tryz.prog = true := by kernel_rfl
set_option maxRecDepth 100000 in
theorem door_met (os : Os) (args : Array Value) : laidMetH Tryz.prog Rows.printTextsUptoRow.laid ((World.laidAll Tryz.prog os Rows.printTextsUptoRow.laid).forCall (fun _ _ => 0) ⟨#[], args, []⟩).memory :=
  Eq.mp (show laidMet Tryz.prog Rows.printTextsUptoRow.laid ((World.laidAll Tryz.prog os Rows.printTextsUptoRow.laid).forCall (fun _ _ => 0) ⟨#[], args, []⟩).memory = laidMetH Tryz.prog Rows.printTextsUptoRow.laid ((World.laidAll Tryz.prog os Rows.printTextsUptoRow.laid).forCall (fun _ _ => 0) ⟨#[], args, []⟩).memory by kernel_rfl) (laidMet_laidAll (os := os) args (by kernel_rfl) (by kernel_rfl))
set_option maxRecDepth 100000 in
theorem glob {W : World} (hL : laidMetH Tryz.prog Rows.printTextsUptoRow.laid W) : Glob W := by
  have hM : laidMet Tryz.prog Rows.printTextsUptoRow.laid W := Eq.mp (by kernel_rfl) hL
  intro x hx
  simp only [tabs, List.mem_cons, List.mem_nil_iff, or_false] at hx
  rcases hx with rfl | rfl | rfl | rfl | rfl | rfl | rfl
  · exact tabAt_flat_of (n := "marginalia/utf.names") (d := Rows.laid_marginalia_utf_names) (fs := [Go.Proofs.YtejefchehdifhaaGreatDoor.Ev.FV.int .i64 32, Go.Proofs.YtejefchehdifhaaGreatDoor.Ev.FV.str (ByteArray.mk #[115, 112, 97, 99, 101]), Go.Proofs.YtejefchehdifhaaGreatDoor.Ev.FV.int .i64 10, Go.Proofs.YtejefchehdifhaaGreatDoor.Ev.FV.str (ByteArray.mk #[110, 101, 119, 108, 105, 110, 101]), Go.Proofs.YtejefchehdifhaaGreatDoor.Ev.FV.int .i64 9, Go.Proofs.YtejefchehdifhaaGreatDoor.Ev.FV.str (ByteArray.mk #[116, 97, 98]), Go.Proofs.YtejefchehdifhaaGreatDoor.Ev.FV.int .i64 13, Go.Proofs.YtejefchehdifhaaGreatDoor.Ev.FV.str (ByteArray.mk #[114, 101, 116, 117, 114, 110]), Go.Proofs.YtejefchehdifhaaGreatDoor.Ev.FV.int .i64 0, Go.Proofs.YtejefchehdifhaaGreatDoor.Ev.FV.str (ByteArray.mk #[110, 117, 108, 108]), Go.Proofs.YtejefchehdifhaaGreatDoor.Ev.FV.int .i64 127, Go.Proofs.YtejefchehdifhaaGreatDoor.Ev.FV.str (ByteArray.mk #[100, 101, 108, 101, 116, 101])]) (m := 8) hM (by kernel_rfl) (List.mem_of_getElem? (i := 6) (by kernel_rfl)) (g := 1) (t := 159) (by kernel_rfl) (by kernel_rfl) (by kernel_rfl)
  · exact tabAt_flat_of (n := "unicode/utf8.first") (d := Rows.laid_unicode_utf8_first) (fs := (List.range 256).map fun c => Go.Proofs.YtejefchehdifhaaGreatDoor.Ev.FV.int .u8 ((Go.Lib.firstT c : Nat) : Int)) (m := 8) hM (by kernel_rfl) (List.mem_of_getElem? (i := 7) (by kernel_rfl)) (g := 2) (t := 163) (by kernel_rfl) (by kernel_rfl) (by kernel_rfl)
  · exact tabAt_flat_of (n := "unicode/utf8.acceptRanges") (d := Rows.laid_unicode_utf8_acceptRanges) (fs := ((List.range 16).map fun i => [Go.Proofs.YtejefchehdifhaaGreatDoor.Ev.FV.int .u8 ((Go.Lib.accLo i : Nat) : Int), Go.Proofs.YtejefchehdifhaaGreatDoor.Ev.FV.int .u8 ((Go.Lib.accHi i : Nat) : Int)]).flatten) (m := 8) hM (by kernel_rfl) (List.mem_of_getElem? (i := 3) (by kernel_rfl)) (g := 3) (t := 167) (by kernel_rfl) (by kernel_rfl) (by kernel_rfl)
  · exact tabAt_ifc_of (n := "strconv.ErrSyntax") (d := Rows.laid_strconv_ErrSyntax) hM (by kernel_rfl) (List.mem_of_getElem? (i := 5) (by kernel_rfl)) (g := 4) (t := 97) (by kernel_rfl) (by kernel_rfl) Tryz.underlying97
  · exact tabAt_ifc_of (n := "strconv.ErrRange") (d := Rows.laid_strconv_ErrRange) hM (by kernel_rfl) (List.mem_of_getElem? (i := 4) (by kernel_rfl)) (g := 5) (t := 97) (by kernel_rfl) (by kernel_rfl) Tryz.underlying97
  · exact tabAt_flat_of (n := "internal/strconv.uint64pow10") (d := Rows.laid_internal_strconv_uint64pow10) (fs := (List.range 20).map fun i => Go.Proofs.YtejefchehdifhaaGreatDoor.Ev.FV.int .u64 ((10 ^ i : Nat) : Int)) (m := 8) hM (by kernel_rfl) (List.mem_of_getElem? (i := 2) (by kernel_rfl)) (g := 7) (t := 202) (by kernel_rfl) (by kernel_rfl) (by kernel_rfl)
  · exact tabAt_flat_of (n := "math/bits.deBruijn64tab") (d := Rows.laid_math_bits_deBruijn64tab) (fs := [0, 1, 56, 2, 57, 49, 28, 3, 61, 58, 42, 50, 38, 29, 17, 4, 62, 47, 59, 36, 45, 43, 51, 22, 53, 39, 33, 30, 24, 18, 12, 5, 63, 55, 48, 27, 60, 41, 37, 16, 46, 35, 44, 21, 52, 32, 23, 11, 54, 26, 40, 15, 34, 20, 31, 10, 25, 14, 19, 9, 13, 8, 7, 6].map fun i => Go.Proofs.YtejefchehdifhaaGreatDoor.Ev.FV.int .u8 i) (m := 8) hM (by kernel_rfl) (List.mem_of_getElem? (i := 1) (by kernel_rfl)) (g := 9) (t := 212) (by kernel_rfl) (by kernel_rfl) (by kernel_rfl)
set_option maxRecDepth 100000 in
theorem lifted (os : Os) (started : os.Started) (H : Type) (enc : TypeId × Value → H) :
    ReturnsInHanded {} Tryz.checked os 5 .any (fun w args => ((Rows.OpenSpec.upto Rows.printTextsSpec).pre enc Tryz.prog Tryz.f5 Rows.printTextsUptoRow.domain false w args ∧ laidMetH Tryz.prog Rows.printTextsUptoRow.laid w) ∧ sizedMet enc Tryz.prog Tryz.f5 (Rows.OpenSpec.upto Rows.printTextsSpec) false w args)
      (Rows.printTextsSpec.post enc Tryz.prog Tryz.f5 false true false false) := by
  refine returnsIn_upto (C := Tryz.checked) (X := fun w _ => laidMetH Tryz.prog Rows.printTextsUptoRow.laid w) (fun _ _ _ hh h => h.of_heap hh) own started (by kernel_rfl) Tryz.func5
    (witness_upto (enc := enc) (C := Tryz.checked) (os := os) (s := Rows.printTextsSpec) (X := fun w _ => laidMetH Tryz.prog Rows.printTextsUptoRow.laid w) (World.laidAll Tryz.prog os Rows.printTextsUptoRow.laid) #[.agg #[.int .i64 0, .string ByteArray.empty, .bool false, .slice none 0 0, .slice none 0 0, .int .i64 0]] 8 (World.laidAll_os _ _ _) (World.shaped_of_ZipB (by kernel_rfl) (by kernel_rfl)) (by kernel_rfl) (by kernel_rfl) (by kernel_rfl) (door_met os _)) ?_
  intro W base args ds gs before hval0 hW hcnd hbk hsz0 hL
  have hsz : (DataW.weightsEach Tryz.prog (Tryz.f5.params.toList ++ Rows.printTextsSpec.plain.varTypes Tryz.prog) (ds ++ gs)).all (· ≤ reachBytes) = true := hsz0
  have hval : ∀ (j : Nat) t v, Tryz.f5.params[j]? = some t → args[j]? = some v → Value.okWide Tryz.prog W .any base t v := hval0
  have hW' := hW
  obtain ⟨p, q, hA0, hV, rfl, hfz, hnd⟩ := hW
  have hA : DataW.TrodAll enc Tryz.prog W 0 (fun _ => true) true Tryz.f5.params.toList args.toList ds p := hA0
  rw [Tryz.params5] at hA hval hsz
  obtain ⟨rfl, rfl⟩ := trodVars_none hV
  have hA2 := hA
  obtain ⟨v0, vs0, d0, ds0, p0, q0, hargs, rfl, rfl, h0_, r0⟩ := trodAll_cons hA2
  obtain ⟨rfl, rfl, rfl⟩ := trodAll_nil r0
  obtain ⟨xs, h1, h2, h3, hb⟩ := openedAll (S := [39, 3, 9, 36, 4, 34, 116, 37]) (ts := [39]) (by kernel_rfl) (by decide) (fun j t v ht hv => hval j t v (by simpa using ht) (by simpa using hv)) hA (fun m hm => by simpa using List.all_eq_true.1 hsz m hm)
  refine ((law_PrintTexts xs h1 (Nat.le_trans hb hbk)).door (glob hL) (by simpa using h2) (fun i x hx => by obtain ⟨v, hv, hr⟩ := h3 i x hx; exact ⟨v, by simpa using hv, hr⟩)).mono fun e W' ⟨he, bel⟩ => ?_
  subst he
  exact ⟨_, rfl, _, _, _, [], _, [], hW', trodAll_mk1 (shut_bool Tryz.underlying4 _), trodAll_below laidOut bel (ts := [39]) (by decide +kernel) hA, rfl, bel.frame _, fun h => by cases h⟩
theorem over : Rows.printTextsUptoRow.holds Tryz.pinned (Rows.OpenSpec.upto Rows.printTextsSpec) :=
  OpenClaim.holds_of_cond 5 Tryz.f5 rfl rfl rfl rfl rfl rfl rfl ⟨rfl, rfl, rfl, rfl, rfl⟩ rfl rfl rfl rfl rfl (by kernel_rfl) Tryz.func5 (by kernel_rfl)
    (of_decide_eq_true (by kernel_rfl)) (by unfold Func.isWrapper; first | (rw [if_pos (by decide +kernel)]; kernel_rfl) | (rw [if_neg (by decide +kernel)]; exact ⟨rfl, rfl⟩))
    (fun os started H enc _ _ => lifted os started H enc)
theorem proved : Rows.PrintTextsUptoCardSaid :=
  Claim7.holds_tied_plain_at .later [] [.data, .data, .data, .data, .sentinel, .sentinel, .data, .pinned] true (true, "b7fd62ea3e1cb0ae30951ff2f781820105a8fe0c0743b841a15bd4ce99226292") true
    over (fun _ h => by cases h) (by kernel_rfl) (fun _ h => by cases h) printTextsUpto_row_tie rfl ⟨rfl, rfl⟩ (by kernel_rfl) rfl
    (fun f fn hf hfn => by
      obtain rfl : f = 5 := Option.some.inj ((show Tryz.prog.funcNamed "marginalia/marginalialaw05.PrintTexts" = some 5 by kernel_rfl).symm.trans hf) |>.symm
      obtain rfl : fn = Tryz.f5 := (Option.some.inj (Tryz.func5.symm.trans hfn)).symm
      exact ⟨by kernel_rfl, fun j t ht => by
        rw [Tryz.params5] at ht
        have hm : t ∈ [39] := by simpa using Array.mem_of_getElem? ht
        have hall : ([39].all fun u => !Tryz.prog.wantsStandIn u) = true := by kernel_rfl
        exact (show Tryz.prog.wantsStandIn t = false by simpa using List.all_eq_true.1 hall t hm)⟩)
    (by kernel_rfl)
end Go.Proofs.YtejefchehdifhaaGreatDoor.printTexts
namespace Go.Proofs.YtejefchehdifhaaGreatDoor
theorem printTextsUpto_holds : Rows.PrintTextsUptoCardSaid := printTexts.proved
end Go.Proofs.YtejefchehdifhaaGreatDoor
end
