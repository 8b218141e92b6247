/-
  Part of a claim: definitions and lemmas that its theorem leans on, packed by wip/tools/pack.py.
-/
import Derived.Test.YtejefchehdifhaaDoorZG3
set_option linter.unusedVariables false
set_option linter.unusedSimpArgs false
section
set_option linter.unusedVariables false
set_option maxRecDepth 100000
namespace Go.Proofs.YtejefchehdifhaaDoor.Ev
open Go
def token_scanner_leftO_lv : List Nat → Keep := lvOf []
def token_scanner_leftO_H (R : TV → List Ob → Prop) (n : Int) (tx : List (List FV)) (p : Int) : Prop :=
  (R (TV.one (AV.fz (FV.bool (decide ((IntKind.wrap .i64 (p + n)) ≤ (((List.length tx) : Nat) : Int)))))) [(Ob.g 59 [(AV.fz (FV.sl 1 tx)), (AV.fz (FV.int .i64 p))])])
theorem token_scanner_leftO_fn (n : Int) (tx : List (List FV)) (p : Int) {r : TV} {h : List Ob} (H : token_scanner_leftO_H (fun r' h' => r' = r ∧ Wk h' h) n tx p) : Fn Tryd.prog 22 [(TV.one (AV.ptr 0 0 0 59)), (TV.one (AV.fz (FV.int .i64 n)))] [(Ob.g 59 [(AV.fz (FV.sl 1 tx)), (AV.fz (FV.int .i64 p))])] r h :=
  Fn.by_trW (M := (modeOf [] [])) (lv := token_scanner_leftO_lv) (own := (some 1)) (F := Tryd.f22) (by kernel_rfl) (by kernel_rfl) (by first | decide | simp) (fun _ _ h => h) (by kernel_rfl) H
def token_scanner_peekO_lv : List Nat → Keep := lvOf []
def token_scanner_peekO_H (R : TV → List Ob → Prop) (n : Int) (tx : List (List FV)) (p : Int) : Prop :=
  (∃ es1 : List (List FV), (∃ n3 : Int, (∃ b1 : Bool, ((Fn Tryd.prog 22 [(TV.one (AV.ptr 0 0 0 59)), (TV.one (AV.fz (FV.int .i64 (IntKind.wrap .i64 (n + 1)))))] [(Ob.g 59 [(AV.fz (FV.sl 1 tx)), (AV.fz (FV.int .i64 p))])] (TV.one (AV.fz (FV.bool b1))) [(Ob.g 59 [(AV.fz (FV.sl 1 es1)), (AV.fz (FV.int .i64 n3))])]) ∧ ((((Bool.not b1) = true) → (R (TV.one (AV.fz (FV.int .i64 (-1)))) [(Ob.g 59 [(AV.fz (FV.sl 1 es1)), (AV.fz (FV.int .i64 n3))])])) ∧ (((Bool.not b1) = false) → (((0 : Int) ≤ (IntKind.wrap .i64 (n3 + n))) ∧ (∃ n4 : Int, (((es1)[(Int.toNat (IntKind.wrap .i64 (n3 + n)))]? = (some [(FV.int .i64 n4)])) ∧ (R (TV.one (AV.fz (FV.int .i64 n4))) [(Ob.g 59 [(AV.fz (FV.sl 1 es1)), (AV.fz (FV.int .i64 n3))])]))))))))))
theorem token_scanner_peekO_fn (n : Int) (tx : List (List FV)) (p : Int) {r : TV} {h : List Ob} (H : token_scanner_peekO_H (fun r' h' => r' = r ∧ Wk h' h) n tx p) : Fn Tryd.prog 34 [(TV.one (AV.ptr 0 0 0 59)), (TV.one (AV.fz (FV.int .i64 n)))] [(Ob.g 59 [(AV.fz (FV.sl 1 tx)), (AV.fz (FV.int .i64 p))])] r h :=
  Fn.by_trW (M := (modeOf [] [(22, [(Sig.mk 1 [(false, [(AT.k CK.bool)])] [(OT.g 59 [(AT.k (CK.sl 1)), (AT.k (CK.int .i64))])] 0)])])) (lv := token_scanner_peekO_lv) (own := (some 1)) (F := Tryd.f34) (by kernel_rfl) (by kernel_rfl) (by first | decide | simp) (fun _ _ h => h) (by kernel_rfl) H
def token_scanner_blanksO_lv : List Nat → Keep := lvOf [([0], ⟨1, 0, [], false, false⟩), ([0, 0, 1, 1, 1, 0, 1, 0, 0, 0], ⟨1, 0, [], false, false⟩)]
def token_scanner_blanksO_S0 (o : List (List FV)) (o1 : Int) : St := (St.mk [(TV.one (AV.ptr 0 0 0 59)), TV.und, TV.und, TV.und, TV.und, TV.und, TV.und, TV.und, TV.und, TV.und, TV.und, TV.und, TV.und, TV.und, TV.und, TV.und, TV.und, TV.und, TV.und, TV.und, TV.und, TV.und, TV.und, TV.und, TV.und, TV.und, TV.und, TV.und, TV.und, TV.und, TV.und, TV.und, TV.und, TV.und, TV.und, TV.und] [(Ob.g 59 [(AV.fz (FV.sl 1 o)), (AV.fz (FV.int .i64 o1))])])
def token_scanner_blanksO_L0 (R : TV → List Ob → Prop) (o : List (List FV)) (o1 : Int) : Prop := LoopAt Tryd.prog (modeOf [] [(22, [(Sig.mk 1 [(false, [(AT.k CK.bool)])] [(OT.g 59 [(AT.k (CK.sl 1)), (AT.k (CK.int .i64))])] 0)]), (34, [(Sig.mk 1 [(false, [(AT.k (CK.int .i64))])] [(OT.g 59 [(AT.k (CK.sl 1)), (AT.k (CK.int .i64))])] 0)])]) token_scanner_blanksO_lv Tryd.f21 (some 1) R [0] (token_scanner_blanksO_S0 o o1)
def token_scanner_blanksO_S1 (es : List (List FV)) (n : Int) : St := (St.mk [(TV.one (AV.ptr 0 0 0 59)), TV.und, TV.und, TV.und, TV.und, TV.und, TV.und, TV.und, TV.und, TV.und, TV.und, TV.und, TV.und, TV.und, TV.und, TV.und, TV.und, TV.und, TV.und, TV.und, TV.und, TV.und, TV.und, TV.und, TV.und, TV.und, TV.und, TV.und, TV.und, TV.und, TV.und, TV.und, TV.und, TV.und, TV.und, TV.und] [(Ob.g 59 [(AV.fz (FV.sl 1 es)), (AV.fz (FV.int .i64 n))])])
def token_scanner_blanksO_L1 (R : TV → List Ob → Prop) (es : List (List FV)) (n : Int) : Prop := LoopAt Tryd.prog (modeOf [] [(22, [(Sig.mk 1 [(false, [(AT.k CK.bool)])] [(OT.g 59 [(AT.k (CK.sl 1)), (AT.k (CK.int .i64))])] 0)]), (34, [(Sig.mk 1 [(false, [(AT.k (CK.int .i64))])] [(OT.g 59 [(AT.k (CK.sl 1)), (AT.k (CK.int .i64))])] 0)])]) token_scanner_blanksO_lv Tryd.f21 (some 1) R [0, 0, 0, 1, 0, 1, 1, 1, 0, 0] (token_scanner_blanksO_S1 es n)
def token_scanner_blanksO_R0 (R : TV → List Ob → Prop) (o : List (List FV)) (o1 : Int) : Prop :=
  (∃ es4 : List (List FV), (∃ n7 : Int, (∃ n8 : Int, ((Fn Tryd.prog 34 [(TV.one (AV.ptr 0 0 0 59)), (TV.one (AV.fz (FV.int .i64 0)))] [(Ob.g 59 [(AV.fz (FV.sl 1 o)), (AV.fz (FV.int .i64 o1))])] (TV.one (AV.fz (FV.int .i64 n8))) [(Ob.g 59 [(AV.fz (FV.sl 1 es4)), (AV.fz (FV.int .i64 n7))])]) ∧ ((((decide ((0 : Int) ≤ n8)) = true) → (∃ b3 : Bool, ((Fn Tryd.prog 35 [(TV.one (AV.fz (FV.int .i64 n8)))] [] (TV.one (AV.fz (FV.bool b3))) []) ∧ (((b3 = true) → (token_scanner_blanksO_L0 R es4 (IntKind.wrap .i64 (n7 + 1)))) ∧ ((b3 = false) → ((((n8 == 59) = true) → (token_scanner_blanksO_L1 R es4 n7)) ∧ (((n8 == 59) = false) → (R (TV.tup []) [(Ob.g 59 [(AV.fz (FV.sl 1 es4)), (AV.fz (FV.int .i64 n7))])])))))))) ∧ (((decide ((0 : Int) ≤ n8)) = false) → ((((n8 == 59) = true) → (token_scanner_blanksO_L1 R es4 n7)) ∧ (((n8 == 59) = false) → (R (TV.tup []) [(Ob.g 59 [(AV.fz (FV.sl 1 es4)), (AV.fz (FV.int .i64 n7))])])))))))))
theorem token_scanner_blanksO_l0 {R : TV → List Ob → Prop} {o : List (List FV)} {o1 : Int} (h : token_scanner_blanksO_R0 R o o1) : token_scanner_blanksO_L0 R o o1 :=
  LoopAt.by_tr (by kernel_rfl) (by kernel_rfl) h
def token_scanner_blanksO_R1 (R : TV → List Ob → Prop) (es : List (List FV)) (n : Int) : Prop :=
  (∃ es4 : List (List FV), (∃ n7 : Int, (∃ b3 : Bool, ((Fn Tryd.prog 22 [(TV.one (AV.ptr 0 0 0 59)), (TV.one (AV.fz (FV.int .i64 1)))] [(Ob.g 59 [(AV.fz (FV.sl 1 es)), (AV.fz (FV.int .i64 n))])] (TV.one (AV.fz (FV.bool b3))) [(Ob.g 59 [(AV.fz (FV.sl 1 es4)), (AV.fz (FV.int .i64 n7))])]) ∧ (((b3 = true) → (∃ es5 : List (List FV), (∃ n8 : Int, (∃ n9 : Int, ((Fn Tryd.prog 34 [(TV.one (AV.ptr 0 0 0 59)), (TV.one (AV.fz (FV.int .i64 0)))] [(Ob.g 59 [(AV.fz (FV.sl 1 es4)), (AV.fz (FV.int .i64 n7))])] (TV.one (AV.fz (FV.int .i64 n9))) [(Ob.g 59 [(AV.fz (FV.sl 1 es5)), (AV.fz (FV.int .i64 n8))])]) ∧ ((((n9 != 10) = true) → (token_scanner_blanksO_L1 R es5 (IntKind.wrap .i64 (n8 + 1)))) ∧ (((n9 != 10) = false) → (token_scanner_blanksO_L0 R es5 n8)))))))) ∧ ((b3 = false) → (token_scanner_blanksO_L0 R es4 n7)))))))
theorem token_scanner_blanksO_l1 {R : TV → List Ob → Prop} {es : List (List FV)} {n : Int} (h : token_scanner_blanksO_R1 R es n) : token_scanner_blanksO_L1 R es n :=
  LoopAt.by_tr (by kernel_rfl) (by kernel_rfl) h
def token_scanner_blanksO_H (R : TV → List Ob → Prop) (tx : List (List FV)) (p : Int) : Prop :=
  (token_scanner_blanksO_L0 R tx p)
theorem token_scanner_blanksO_fn (tx : List (List FV)) (p : Int) {r : TV} {h : List Ob} (H : token_scanner_blanksO_H (fun r' h' => r' = r ∧ Wk h' h) tx p) : Fn Tryd.prog 21 [(TV.one (AV.ptr 0 0 0 59))] [(Ob.g 59 [(AV.fz (FV.sl 1 tx)), (AV.fz (FV.int .i64 p))])] r h :=
  Fn.by_trW (M := (modeOf [] [(22, [(Sig.mk 1 [(false, [(AT.k CK.bool)])] [(OT.g 59 [(AT.k (CK.sl 1)), (AT.k (CK.int .i64))])] 0)]), (34, [(Sig.mk 1 [(false, [(AT.k (CK.int .i64))])] [(OT.g 59 [(AT.k (CK.sl 1)), (AT.k (CK.int .i64))])] 0)])])) (lv := token_scanner_blanksO_lv) (own := (some 1)) (F := Tryd.f21) (by kernel_rfl) (by kernel_rfl) (by first | decide | simp) (fun _ _ h => h) (by kernel_rfl) H
def token_scanner_whileO_lv : List Nat → Keep := lvOf [([0, 0, 1, 1, 1], ⟨33, 0, [], false, false⟩)]
def token_scanner_whileO_S0 (p : Int) (o : List (List FV)) (o1 : Int) : St := (St.mk [(TV.one (AV.ptr 0 0 0 59)), TV.und, TV.und, TV.und, TV.und, (TV.one (AV.fz (FV.int .i64 p))), TV.und, TV.und, TV.und, TV.und, TV.und, TV.und, TV.und, TV.und, TV.und, TV.und, TV.und, TV.und, TV.und, TV.und, TV.und, TV.und, TV.und, TV.und, TV.und, TV.und, TV.und, TV.und, TV.und, TV.und, TV.und, TV.und, TV.und, TV.und, TV.und, TV.und, TV.und, TV.und, TV.und, TV.und, TV.und, TV.und, TV.und, TV.und, TV.und, TV.und, TV.und, TV.und, TV.und, TV.und, TV.und] [(Ob.g 59 [(AV.fz (FV.sl 1 o)), (AV.fz (FV.int .i64 o1))])])
def token_scanner_whileO_L0 (R : TV → List Ob → Prop) (p : Int) (o : List (List FV)) (o1 : Int) : Prop := LoopAt Tryd.prog (modeOf [] [(22, [(Sig.mk 1 [(false, [(AT.k CK.bool)])] [(OT.g 59 [(AT.k (CK.sl 1)), (AT.k (CK.int .i64))])] 0)]), (34, [(Sig.mk 1 [(false, [(AT.k (CK.int .i64))])] [(OT.g 59 [(AT.k (CK.sl 1)), (AT.k (CK.int .i64))])] 0)])]) token_scanner_whileO_lv Tryd.f48 (some 1) R [1, 1, 1, 0, 0] (token_scanner_whileO_S0 p o o1)
def token_scanner_whileO_R0 (R : TV → List Ob → Prop) (p : Int) (o : List (List FV)) (o1 : Int) : Prop :=
  (∃ es8 : List (List FV), (∃ n15 : Int, (∃ b4 : Bool, ((Fn Tryd.prog 22 [(TV.one (AV.ptr 0 0 0 59)), (TV.one (AV.fz (FV.int .i64 1)))] [(Ob.g 59 [(AV.fz (FV.sl 1 o)), (AV.fz (FV.int .i64 o1))])] (TV.one (AV.fz (FV.bool b4))) [(Ob.g 59 [(AV.fz (FV.sl 1 es8)), (AV.fz (FV.int .i64 n15))])]) ∧ (((b4 = true) → (∃ es9 : List (List FV), (∃ n16 : Int, (∃ n17 : Int, ((Fn Tryd.prog 34 [(TV.one (AV.ptr 0 0 0 59)), (TV.one (AV.fz (FV.int .i64 0)))] [(Ob.g 59 [(AV.fz (FV.sl 1 es8)), (AV.fz (FV.int .i64 n15))])] (TV.one (AV.fz (FV.int .i64 n17))) [(Ob.g 59 [(AV.fz (FV.sl 1 es9)), (AV.fz (FV.int .i64 n16))])]) ∧ (∃ b5 : Bool, ((Fn Tryd.prog 31 [(TV.one (AV.fz (FV.int .i64 n17)))] [] (TV.one (AV.fz (FV.bool b5))) []) ∧ ((((Bool.not b5) = true) → (token_scanner_whileO_L0 R p es9 (IntKind.wrap .i64 (n16 + 1)))) ∧ (((Bool.not b5) = false) → ((((0 : Int) ≤ p) ∧ ((p ≤ n16) ∧ (n16 ≤ (((List.length es9) : Nat) : Int)))) ∧ (∃ es10 : List (List FV), (∃ n18 : Int, ((Fn Tryd.prog 62 [(TV.one (AV.fz (FV.sl 1 (List.drop (Int.toNat p) (List.take (Int.toNat n16) es9)))))] [] (TV.tup [(false, [(AV.fz (FV.sl 1 es10))]), (false, [(AV.fz (FV.int .i64 n18))])]) []) ∧ (∃ ns4 : List Int, ((es10 = (List.map (fun n19 => [(FV.int .u8 n19)]) ns4)) ∧ (R (TV.one (AV.fz (FV.str (bytesOf ns4)))) [(Ob.g 59 [(AV.fz (FV.sl 1 es9)), (AV.fz (FV.int .i64 n16))])])))))))))))))))) ∧ ((b4 = false) → ((((0 : Int) ≤ p) ∧ ((p ≤ n15) ∧ (n15 ≤ (((List.length es8) : Nat) : Int)))) ∧ (∃ es11 : List (List FV), (∃ n20 : Int, ((Fn Tryd.prog 62 [(TV.one (AV.fz (FV.sl 1 (List.drop (Int.toNat p) (List.take (Int.toNat n15) es8)))))] [] (TV.tup [(false, [(AV.fz (FV.sl 1 es11))]), (false, [(AV.fz (FV.int .i64 n20))])]) []) ∧ (∃ ns5 : List Int, ((es11 = (List.map (fun n21 => [(FV.int .u8 n21)]) ns5)) ∧ (R (TV.one (AV.fz (FV.str (bytesOf ns5)))) [(Ob.g 59 [(AV.fz (FV.sl 1 es8)), (AV.fz (FV.int .i64 n15))])])))))))))))))
theorem token_scanner_whileO_l0 {R : TV → List Ob → Prop} {p : Int} {o : List (List FV)} {o1 : Int} (h : token_scanner_whileO_R0 R p o o1) : token_scanner_whileO_L0 R p o o1 :=
  LoopAt.by_tr (by kernel_rfl) (by kernel_rfl) h
def token_scanner_whileO_H (R : TV → List Ob → Prop) (from_ : Int) (tx : List (List FV)) (p : Int) : Prop :=
  (token_scanner_whileO_L0 R p tx (IntKind.wrap .i64 (p + from_)))
theorem token_scanner_whileO_fn (from_ : Int) (tx : List (List FV)) (p : Int) {r : TV} {h : List Ob} (H : token_scanner_whileO_H (fun r' h' => r' = r ∧ Wk h' h) from_ tx p) : Fn Tryd.prog 48 [(TV.one (AV.ptr 0 0 0 59)), (TV.one (AV.fz (FV.int .i64 from_)))] [(Ob.g 59 [(AV.fz (FV.sl 1 tx)), (AV.fz (FV.int .i64 p))])] r h :=
  Fn.by_trW (M := (modeOf [] [(22, [(Sig.mk 1 [(false, [(AT.k CK.bool)])] [(OT.g 59 [(AT.k (CK.sl 1)), (AT.k (CK.int .i64))])] 0)]), (34, [(Sig.mk 1 [(false, [(AT.k (CK.int .i64))])] [(OT.g 59 [(AT.k (CK.sl 1)), (AT.k (CK.int .i64))])] 0)])])) (lv := token_scanner_whileO_lv) (own := (some 1)) (F := Tryd.f48) (by kernel_rfl) (by kernel_rfl) (by first | decide | simp) (fun _ _ h => h) (by kernel_rfl) H
def token_scanner_hereO_lv : List Nat → Keep := lvOf [([0, 1, 0, 1], ⟨387, 0, [], false, false⟩)]
def token_scanner_hereO_S0 (w : ByteArray) (i : Int) (o : List (List FV)) (o1 : Int) : St := (St.mk [(TV.one (AV.ptr 0 0 0 59)), (TV.one (AV.fz (FV.str w))), TV.und, TV.und, TV.und, TV.und, TV.und, (TV.one (AV.fz (FV.int .i64 (((ByteArray.size w) : Nat) : Int)))), (TV.one (AV.fz (FV.int .i64 i))), TV.und, TV.und, TV.und, TV.und, TV.und, TV.und, TV.und, TV.und, TV.und, TV.und, TV.und] [(Ob.g 59 [(AV.fz (FV.sl 1 o)), (AV.fz (FV.int .i64 o1))])])
def token_scanner_hereO_L0 (R : TV → List Ob → Prop) (w : ByteArray) (i : Int) (o : List (List FV)) (o1 : Int) : Prop := LoopAt Tryd.prog (modeOf [] [(34, [(Sig.mk 1 [(false, [(AT.k (CK.int .i64))])] [(OT.g 59 [(AT.k (CK.sl 1)), (AT.k (CK.int .i64))])] 0)])]) token_scanner_hereO_lv Tryd.f36 (some 1) R [1, 0, 1, 0] (token_scanner_hereO_S0 w i o o1)
def token_scanner_hereO_R0 (R : TV → List Ob → Prop) (w : ByteArray) (i : Int) (o : List (List FV)) (o1 : Int) : Prop :=
  ((((decide (i < (((ByteArray.size w) : Nat) : Int))) = true) → (∃ es2 : List (List FV), (∃ n4 : Int, (∃ n5 : Int, ((Fn Tryd.prog 34 [(TV.one (AV.ptr 0 0 0 59)), (TV.one (AV.fz (FV.int .i64 i)))] [(Ob.g 59 [(AV.fz (FV.sl 1 o)), (AV.fz (FV.int .i64 o1))])] (TV.one (AV.fz (FV.int .i64 n5))) [(Ob.g 59 [(AV.fz (FV.sl 1 es2)), (AV.fz (FV.int .i64 n4))])]) ∧ (((0 : Int) ≤ i) ∧ (∃ c2 : UInt8, ((((ByteArray.data w))[(Int.toNat i)]? = (some c2)) ∧ ((((n5 != (IntKind.wrap .i64 (((UInt8.toNat c2) : Nat) : Int))) = true) → (R (TV.one (AV.fz (FV.bool false))) [(Ob.g 59 [(AV.fz (FV.sl 1 es2)), (AV.fz (FV.int .i64 n4))])])) ∧ (((n5 != (IntKind.wrap .i64 (((UInt8.toNat c2) : Nat) : Int))) = false) → (token_scanner_hereO_L0 R w (IntKind.wrap .i64 (i + 1)) es2 n4))))))))))) ∧ (((decide (i < (((ByteArray.size w) : Nat) : Int))) = false) → (R (TV.one (AV.fz (FV.bool true))) [(Ob.g 59 [(AV.fz (FV.sl 1 o)), (AV.fz (FV.int .i64 o1))])])))
theorem token_scanner_hereO_l0 {R : TV → List Ob → Prop} {w : ByteArray} {i : Int} {o : List (List FV)} {o1 : Int} (h : token_scanner_hereO_R0 R w i o o1) : token_scanner_hereO_L0 R w i o o1 :=
  LoopAt.by_tr (by kernel_rfl) (by kernel_rfl) h
def token_scanner_hereO_H (R : TV → List Ob → Prop) (w : ByteArray) (tx : List (List FV)) (p : Int) : Prop :=
  (token_scanner_hereO_L0 R w 0 tx p)
theorem token_scanner_hereO_fn (w : ByteArray) (tx : List (List FV)) (p : Int) {r : TV} {h : List Ob} (H : token_scanner_hereO_H (fun r' h' => r' = r ∧ Wk h' h) w tx p) : Fn Tryd.prog 36 [(TV.one (AV.ptr 0 0 0 59)), (TV.one (AV.fz (FV.str w)))] [(Ob.g 59 [(AV.fz (FV.sl 1 tx)), (AV.fz (FV.int .i64 p))])] r h :=
  Fn.by_trW (M := (modeOf [] [(34, [(Sig.mk 1 [(false, [(AT.k (CK.int .i64))])] [(OT.g 59 [(AT.k (CK.sl 1)), (AT.k (CK.int .i64))])] 0)])])) (lv := token_scanner_hereO_lv) (own := (some 1)) (F := Tryd.f36) (by kernel_rfl) (by kernel_rfl) (by first | decide | simp) (fun _ _ h => h) (by kernel_rfl) H
def token_scanner_hexO_lv : List Nat → Keep := lvOf [([0, 0, 1, 1], ⟨9, 0, [], false, false⟩)]
def token_scanner_hexO_S0 (p : Int) (o : List (List FV)) (o1 : Int) : St := (St.mk [(TV.one (AV.ptr 0 0 0 59)), TV.und, TV.und, (TV.one (AV.fz (FV.int .i64 p))), TV.und, TV.und, TV.und, TV.und, TV.und, TV.und, TV.und, TV.und, TV.und, TV.und, TV.und, TV.und, TV.und, TV.und, TV.und, TV.und, TV.und, TV.und, TV.und, TV.und, TV.und, TV.und, TV.und, TV.und, TV.und, TV.und, TV.und, TV.und, TV.und, TV.und, TV.und, TV.und, TV.und, TV.und, TV.und, TV.und, TV.und, TV.und, TV.und, TV.und, TV.und, TV.und, TV.und, TV.und, TV.und, TV.und, TV.und, TV.und, TV.und, TV.und, TV.und, TV.und, TV.und, TV.und, TV.und, TV.und, TV.und, TV.und, TV.und, TV.und, TV.und, TV.und, TV.und, TV.und, TV.und, TV.und, TV.und, TV.und, TV.und, TV.und, TV.und, TV.und, TV.und] [(Ob.g 59 [(AV.fz (FV.sl 1 o)), (AV.fz (FV.int .i64 o1))])])
def token_scanner_hexO_L0 (R : TV → List Ob → Prop) (p : Int) (o : List (List FV)) (o1 : Int) : Prop := LoopAt Tryd.prog (modeOf [] [(22, [(Sig.mk 1 [(false, [(AT.k CK.bool)])] [(OT.g 59 [(AT.k (CK.sl 1)), (AT.k (CK.int .i64))])] 0)]), (34, [(Sig.mk 1 [(false, [(AT.k (CK.int .i64))])] [(OT.g 59 [(AT.k (CK.sl 1)), (AT.k (CK.int .i64))])] 0)])]) token_scanner_hexO_lv Tryd.f76 (some 1) R [1, 1, 0, 0] (token_scanner_hexO_S0 p o o1)
def token_scanner_hexO_R0 (R : TV → List Ob → Prop) (p : Int) (o : List (List FV)) (o1 : Int) : Prop :=
  (∃ es16 : List (List FV), (∃ n37 : Int, (∃ b8 : Bool, ((Fn Tryd.prog 22 [(TV.one (AV.ptr 0 0 0 59)), (TV.one (AV.fz (FV.int .i64 1)))] [(Ob.g 59 [(AV.fz (FV.sl 1 o)), (AV.fz (FV.int .i64 o1))])] (TV.one (AV.fz (FV.bool b8))) [(Ob.g 59 [(AV.fz (FV.sl 1 es16)), (AV.fz (FV.int .i64 n37))])]) ∧ (((b8 = true) → (∃ es17 : List (List FV), (∃ n38 : Int, (∃ n39 : Int, ((Fn Tryd.prog 34 [(TV.one (AV.ptr 0 0 0 59)), (TV.one (AV.fz (FV.int .i64 0)))] [(Ob.g 59 [(AV.fz (FV.sl 1 es16)), (AV.fz (FV.int .i64 n37))])] (TV.one (AV.fz (FV.int .i64 n39))) [(Ob.g 59 [(AV.fz (FV.sl 1 es17)), (AV.fz (FV.int .i64 n38))])]) ∧ ((((n39 != 59) = true) → ((((decide ((IntKind.wrap .i64 (n38 - p)) < 7)) = true) → (token_scanner_hexO_L0 R p es17 (IntKind.wrap .i64 (n38 + 1)))) ∧ (((decide ((IntKind.wrap .i64 (n38 - p)) < 7)) = false) → (∃ es18 : List (List FV), (∃ n40 : Int, (∃ n41 : Int, ((Fn Tryd.prog 34 [(TV.one (AV.ptr 0 0 0 59)), (TV.one (AV.fz (FV.int .i64 0)))] [(Ob.g 59 [(AV.fz (FV.sl 1 es17)), (AV.fz (FV.int .i64 n38))])] (TV.one (AV.fz (FV.int .i64 n41))) [(Ob.g 59 [(AV.fz (FV.sl 1 es18)), (AV.fz (FV.int .i64 n40))])]) ∧ ((((n41 != 59) = true) → (R (TV.one (AV.fz (FV.int .i64 (-1)))) [(Ob.g 59 [(AV.fz (FV.sl 1 es18)), (AV.fz (FV.int .i64 n40))])])) ∧ (((n41 != 59) = false) → ((((n40 == p) = true) → (R (TV.one (AV.fz (FV.int .i64 (-1)))) [(Ob.g 59 [(AV.fz (FV.sl 1 es18)), (AV.fz (FV.int .i64 n40))])])) ∧ (((n40 == p) = false) → ((((0 : Int) ≤ p) ∧ ((p ≤ n40) ∧ (n40 ≤ (((List.length es18) : Nat) : Int)))) ∧ (∃ es19 : List (List FV), (∃ n42 : Int, ((Fn Tryd.prog 62 [(TV.one (AV.fz (FV.sl 1 (List.drop (Int.toNat p) (List.take (Int.toNat n40) es18)))))] [] (TV.tup [(false, [(AV.fz (FV.sl 1 es19))]), (false, [(AV.fz (FV.int .i64 n42))])]) []) ∧ (∃ ns6 : List Int, ((es19 = (List.map (fun n43 => [(FV.int .u8 n43)]) ns6)) ∧ ((((ByteArray.size (ByteArray.mk #[120])) + (ByteArray.size (bytesOf ns6))) ≤ 9223372036854775807) ∧ (∃ n44 : Int, (∃ b9 : Bool, ((Fn Tryd.prog 64 [(TV.one (AV.fz (FV.str ((ByteArray.mk #[120]) ++ (bytesOf ns6)))))] [] (TV.tup [(false, [(AV.fz (FV.int .i64 n44))]), (false, [(AV.fz (FV.bool b9))])]) []) ∧ ((((Bool.not b9) = true) → (R (TV.one (AV.fz (FV.int .i64 (-1)))) [(Ob.g 59 [(AV.fz (FV.sl 1 es18)), (AV.fz (FV.int .i64 (IntKind.wrap .i64 (n40 + 1))))])])) ∧ (((Bool.not b9) = false) → (R (TV.one (AV.fz (FV.int .i64 n44))) [(Ob.g 59 [(AV.fz (FV.sl 1 es18)), (AV.fz (FV.int .i64 (IntKind.wrap .i64 (n40 + 1))))])])))))))))))))))))))))))) ∧ (((n39 != 59) = false) → (∃ es20 : List (List FV), (∃ n45 : Int, (∃ n46 : Int, ((Fn Tryd.prog 34 [(TV.one (AV.ptr 0 0 0 59)), (TV.one (AV.fz (FV.int .i64 0)))] [(Ob.g 59 [(AV.fz (FV.sl 1 es17)), (AV.fz (FV.int .i64 n38))])] (TV.one (AV.fz (FV.int .i64 n46))) [(Ob.g 59 [(AV.fz (FV.sl 1 es20)), (AV.fz (FV.int .i64 n45))])]) ∧ ((((n46 != 59) = true) → (R (TV.one (AV.fz (FV.int .i64 (-1)))) [(Ob.g 59 [(AV.fz (FV.sl 1 es20)), (AV.fz (FV.int .i64 n45))])])) ∧ (((n46 != 59) = false) → ((((n45 == p) = true) → (R (TV.one (AV.fz (FV.int .i64 (-1)))) [(Ob.g 59 [(AV.fz (FV.sl 1 es20)), (AV.fz (FV.int .i64 n45))])])) ∧ (((n45 == p) = false) → ((((0 : Int) ≤ p) ∧ ((p ≤ n45) ∧ (n45 ≤ (((List.length es20) : Nat) : Int)))) ∧ (∃ es21 : List (List FV), (∃ n47 : Int, ((Fn Tryd.prog 62 [(TV.one (AV.fz (FV.sl 1 (List.drop (Int.toNat p) (List.take (Int.toNat n45) es20)))))] [] (TV.tup [(false, [(AV.fz (FV.sl 1 es21))]), (false, [(AV.fz (FV.int .i64 n47))])]) []) ∧ (∃ ns7 : List Int, ((es21 = (List.map (fun n48 => [(FV.int .u8 n48)]) ns7)) ∧ ((((ByteArray.size (ByteArray.mk #[120])) + (ByteArray.size (bytesOf ns7))) ≤ 9223372036854775807) ∧ (∃ n49 : Int, (∃ b10 : Bool, ((Fn Tryd.prog 64 [(TV.one (AV.fz (FV.str ((ByteArray.mk #[120]) ++ (bytesOf ns7)))))] [] (TV.tup [(false, [(AV.fz (FV.int .i64 n49))]), (false, [(AV.fz (FV.bool b10))])]) []) ∧ ((((Bool.not b10) = true) → (R (TV.one (AV.fz (FV.int .i64 (-1)))) [(Ob.g 59 [(AV.fz (FV.sl 1 es20)), (AV.fz (FV.int .i64 (IntKind.wrap .i64 (n45 + 1))))])])) ∧ (((Bool.not b10) = false) → (R (TV.one (AV.fz (FV.int .i64 n49))) [(Ob.g 59 [(AV.fz (FV.sl 1 es20)), (AV.fz (FV.int .i64 (IntKind.wrap .i64 (n45 + 1))))])])))))))))))))))))))))))))))) ∧ ((b8 = false) → (∃ es22 : List (List FV), (∃ n50 : Int, (∃ n51 : Int, ((Fn Tryd.prog 34 [(TV.one (AV.ptr 0 0 0 59)), (TV.one (AV.fz (FV.int .i64 0)))] [(Ob.g 59 [(AV.fz (FV.sl 1 es16)), (AV.fz (FV.int .i64 n37))])] (TV.one (AV.fz (FV.int .i64 n51))) [(Ob.g 59 [(AV.fz (FV.sl 1 es22)), (AV.fz (FV.int .i64 n50))])]) ∧ ((((n51 != 59) = true) → (R (TV.one (AV.fz (FV.int .i64 (-1)))) [(Ob.g 59 [(AV.fz (FV.sl 1 es22)), (AV.fz (FV.int .i64 n50))])])) ∧ (((n51 != 59) = false) → ((((n50 == p) = true) → (R (TV.one (AV.fz (FV.int .i64 (-1)))) [(Ob.g 59 [(AV.fz (FV.sl 1 es22)), (AV.fz (FV.int .i64 n50))])])) ∧ (((n50 == p) = false) → ((((0 : Int) ≤ p) ∧ ((p ≤ n50) ∧ (n50 ≤ (((List.length es22) : Nat) : Int)))) ∧ (∃ es23 : List (List FV), (∃ n52 : Int, ((Fn Tryd.prog 62 [(TV.one (AV.fz (FV.sl 1 (List.drop (Int.toNat p) (List.take (Int.toNat n50) es22)))))] [] (TV.tup [(false, [(AV.fz (FV.sl 1 es23))]), (false, [(AV.fz (FV.int .i64 n52))])]) []) ∧ (∃ ns8 : List Int, ((es23 = (List.map (fun n53 => [(FV.int .u8 n53)]) ns8)) ∧ ((((ByteArray.size (ByteArray.mk #[120])) + (ByteArray.size (bytesOf ns8))) ≤ 9223372036854775807) ∧ (∃ n54 : Int, (∃ b11 : Bool, ((Fn Tryd.prog 64 [(TV.one (AV.fz (FV.str ((ByteArray.mk #[120]) ++ (bytesOf ns8)))))] [] (TV.tup [(false, [(AV.fz (FV.int .i64 n54))]), (false, [(AV.fz (FV.bool b11))])]) []) ∧ ((((Bool.not b11) = true) → (R (TV.one (AV.fz (FV.int .i64 (-1)))) [(Ob.g 59 [(AV.fz (FV.sl 1 es22)), (AV.fz (FV.int .i64 (IntKind.wrap .i64 (n50 + 1))))])])) ∧ (((Bool.not b11) = false) → (R (TV.one (AV.fz (FV.int .i64 n54))) [(Ob.g 59 [(AV.fz (FV.sl 1 es22)), (AV.fz (FV.int .i64 (IntKind.wrap .i64 (n50 + 1))))])])))))))))))))))))))))))))))
theorem token_scanner_hexO_l0 {R : TV → List Ob → Prop} {p : Int} {o : List (List FV)} {o1 : Int} (h : token_scanner_hexO_R0 R p o o1) : token_scanner_hexO_L0 R p o o1 :=
  LoopAt.by_tr (by kernel_rfl) (by kernel_rfl) h
def token_scanner_hexO_H (R : TV → List Ob → Prop) (tx : List (List FV)) (p : Int) : Prop :=
  (token_scanner_hexO_L0 R p tx p)
theorem token_scanner_hexO_fn (tx : List (List FV)) (p : Int) {r : TV} {h : List Ob} (H : token_scanner_hexO_H (fun r' h' => r' = r ∧ Wk h' h) tx p) : Fn Tryd.prog 76 [(TV.one (AV.ptr 0 0 0 59))] [(Ob.g 59 [(AV.fz (FV.sl 1 tx)), (AV.fz (FV.int .i64 p))])] r h :=
  Fn.by_trW (M := (modeOf [] [(22, [(Sig.mk 1 [(false, [(AT.k CK.bool)])] [(OT.g 59 [(AT.k (CK.sl 1)), (AT.k (CK.int .i64))])] 0)]), (34, [(Sig.mk 1 [(false, [(AT.k (CK.int .i64))])] [(OT.g 59 [(AT.k (CK.sl 1)), (AT.k (CK.int .i64))])] 0)])])) (lv := token_scanner_hexO_lv) (own := (some 1)) (F := Tryd.f76) (by kernel_rfl) (by kernel_rfl) (by first | decide | simp) (fun _ _ h => h) (by kernel_rfl) H
def token_scanner_escapeO_lv : List Nat → Keep := lvOf []
def token_scanner_escapeO_H (R : TV → List Ob → Prop) (tx : List (List FV)) (p : Int) : Prop :=
  (∃ es2 : List (List FV), (∃ n4 : Int, (∃ n5 : Int, ((Fn Tryd.prog 34 [(TV.one (AV.ptr 0 0 0 59)), (TV.one (AV.fz (FV.int .i64 0)))] [(Ob.g 59 [(AV.fz (FV.sl 1 tx)), (AV.fz (FV.int .i64 p))])] (TV.one (AV.fz (FV.int .i64 n5))) [(Ob.g 59 [(AV.fz (FV.sl 1 es2)), (AV.fz (FV.int .i64 n4))])]) ∧ ((((n5 == 110) = true) → (R (TV.one (AV.fz (FV.int .i64 10))) [(Ob.g 59 [(AV.fz (FV.sl 1 es2)), (AV.fz (FV.int .i64 (IntKind.wrap .i64 (n4 + 1))))])])) ∧ (((n5 == 110) = false) → ((((n5 == 114) = true) → (R (TV.one (AV.fz (FV.int .i64 13))) [(Ob.g 59 [(AV.fz (FV.sl 1 es2)), (AV.fz (FV.int .i64 (IntKind.wrap .i64 (n4 + 1))))])])) ∧ (((n5 == 114) = false) → ((((n5 == 116) = true) → (R (TV.one (AV.fz (FV.int .i64 9))) [(Ob.g 59 [(AV.fz (FV.sl 1 es2)), (AV.fz (FV.int .i64 (IntKind.wrap .i64 (n4 + 1))))])])) ∧ (((n5 == 116) = false) → ((((n5 == 92) = true) → (R (TV.one (AV.fz (FV.int .i64 n5))) [(Ob.g 59 [(AV.fz (FV.sl 1 es2)), (AV.fz (FV.int .i64 (IntKind.wrap .i64 (n4 + 1))))])])) ∧ (((n5 == 92) = false) → ((((n5 == 34) = true) → (R (TV.one (AV.fz (FV.int .i64 n5))) [(Ob.g 59 [(AV.fz (FV.sl 1 es2)), (AV.fz (FV.int .i64 (IntKind.wrap .i64 (n4 + 1))))])])) ∧ (((n5 == 34) = false) → ((((n5 == 120) = true) → (∃ es3 : List (List FV), (∃ n6 : Int, (∃ n7 : Int, ((Fn Tryd.prog 76 [(TV.one (AV.ptr 0 0 0 59))] [(Ob.g 59 [(AV.fz (FV.sl 1 es2)), (AV.fz (FV.int .i64 (IntKind.wrap .i64 (n4 + 1))))])] (TV.one (AV.fz (FV.int .i64 n7))) [(Ob.g 59 [(AV.fz (FV.sl 1 es3)), (AV.fz (FV.int .i64 n6))])]) ∧ (R (TV.one (AV.fz (FV.int .i64 n7))) [(Ob.g 59 [(AV.fz (FV.sl 1 es3)), (AV.fz (FV.int .i64 n6))])])))))) ∧ (((n5 == 120) = false) → (R (TV.one (AV.fz (FV.int .i64 (-1)))) [(Ob.g 59 [(AV.fz (FV.sl 1 es2)), (AV.fz (FV.int .i64 (IntKind.wrap .i64 (n4 + 1))))])])))))))))))))))))
theorem token_scanner_escapeO_fn (tx : List (List FV)) (p : Int) {r : TV} {h : List Ob} (H : token_scanner_escapeO_H (fun r' h' => r' = r ∧ Wk h' h) tx p) : Fn Tryd.prog 63 [(TV.one (AV.ptr 0 0 0 59))] [(Ob.g 59 [(AV.fz (FV.sl 1 tx)), (AV.fz (FV.int .i64 p))])] r h :=
  Fn.by_trW (M := (modeOf [] [(34, [(Sig.mk 1 [(false, [(AT.k (CK.int .i64))])] [(OT.g 59 [(AT.k (CK.sl 1)), (AT.k (CK.int .i64))])] 0)]), (76, [(Sig.mk 1 [(false, [(AT.k (CK.int .i64))])] [(OT.g 59 [(AT.k (CK.sl 1)), (AT.k (CK.int .i64))])] 0)])])) (lv := token_scanner_escapeO_lv) (own := (some 1)) (F := Tryd.f63) (by kernel_rfl) (by kernel_rfl) (by first | decide | simp) (fun _ _ h => h) (by kernel_rfl) H
def token_scanner_strO_lv : List Nat → Keep := lvOf [([0, 0, 1, 1], ⟨17, 0, [], false, false⟩)]
def token_scanner_strO_S0 (o : List (List FV)) (o1 : Int) (o2 : List (List FV)) : St := (St.mk [(TV.one (AV.ptr 0 0 0 59)), TV.und, TV.und, TV.und, (TV.one (AV.ofl 1 1)), TV.und, TV.und, TV.und, TV.und, TV.und, TV.und, TV.und, TV.und, TV.und, TV.und, TV.und, TV.und, TV.und, TV.und, TV.und, TV.und, TV.und, TV.und, TV.und, TV.und, TV.und, TV.und, TV.und, TV.und, TV.und, TV.und, TV.und, TV.und, TV.und, TV.und, TV.und, TV.und, TV.und, TV.und, TV.und, TV.und, TV.und] [(Ob.g 59 [(AV.fz (FV.sl 1 o)), (AV.fz (FV.int .i64 o1))]), (Ob.f 0 1 o2)])
def token_scanner_strO_L0 (R : TV → List Ob → Prop) (o : List (List FV)) (o1 : Int) (o2 : List (List FV)) : Prop := LoopAt Tryd.prog (modeOf [] [(22, [(Sig.mk 1 [(false, [(AT.k CK.bool)])] [(OT.g 59 [(AT.k (CK.sl 1)), (AT.k (CK.int .i64))])] 0)]), (34, [(Sig.mk 1 [(false, [(AT.k (CK.int .i64))])] [(OT.g 59 [(AT.k (CK.sl 1)), (AT.k (CK.int .i64))])] 0)]), (63, [(Sig.mk 1 [(false, [(AT.k (CK.int .i64))])] [(OT.g 59 [(AT.k (CK.sl 1)), (AT.k (CK.int .i64))])] 0)])]) token_scanner_strO_lv Tryd.f46 (some 1) R [1, 1, 0, 0] (token_scanner_strO_S0 o o1 o2)
def token_scanner_strO_R0 (R : TV → List Ob → Prop) (o : List (List FV)) (o1 : Int) (o2 : List (List FV)) : Prop :=
  (∃ es8 : List (List FV), (∃ n15 : Int, (∃ b2 : Bool, ((Fn Tryd.prog 22 [(TV.one (AV.ptr 0 0 0 59)), (TV.one (AV.fz (FV.int .i64 1)))] [(Ob.g 59 [(AV.fz (FV.sl 1 o)), (AV.fz (FV.int .i64 o1))])] (TV.one (AV.fz (FV.bool b2))) [(Ob.g 59 [(AV.fz (FV.sl 1 es8)), (AV.fz (FV.int .i64 n15))])]) ∧ (((b2 = true) → (∃ es9 : List (List FV), (∃ n16 : Int, (∃ n17 : Int, ((Fn Tryd.prog 34 [(TV.one (AV.ptr 0 0 0 59)), (TV.one (AV.fz (FV.int .i64 0)))] [(Ob.g 59 [(AV.fz (FV.sl 1 es8)), (AV.fz (FV.int .i64 n15))])] (TV.one (AV.fz (FV.int .i64 n17))) [(Ob.g 59 [(AV.fz (FV.sl 1 es9)), (AV.fz (FV.int .i64 n16))])]) ∧ ((((n17 == 34) = true) → (∃ es10 : List (List FV), (∃ n18 : Int, ((Fn Tryd.prog 62 [(TV.one (AV.fz (FV.sl 1 o2)))] [] (TV.tup [(false, [(AV.fz (FV.sl 1 es10))]), (false, [(AV.fz (FV.int .i64 n18))])]) []) ∧ (∃ ns2 : List Int, ((es10 = (List.map (fun n19 => [(FV.int .u8 n19)]) ns2)) ∧ (R (TV.tup [(false, [(AV.fz (FV.str (bytesOf ns2)))]), (false, [(AV.fz (FV.bool (decide ((((List.length o2) : Nat) : Int) ≤ 4096))))])]) [(Ob.g 59 [(AV.fz (FV.sl 1 es9)), (AV.fz (FV.int .i64 (IntKind.wrap .i64 (n16 + 1))))])]))))))) ∧ (((n17 == 34) = false) → ((((n17 == 92) = true) → (∃ es11 : List (List FV), (∃ n20 : Int, (∃ n21 : Int, ((Fn Tryd.prog 63 [(TV.one (AV.ptr 0 0 0 59))] [(Ob.g 59 [(AV.fz (FV.sl 1 es9)), (AV.fz (FV.int .i64 (IntKind.wrap .i64 (n16 + 1))))])] (TV.one (AV.fz (FV.int .i64 n21))) [(Ob.g 59 [(AV.fz (FV.sl 1 es11)), (AV.fz (FV.int .i64 n20))])]) ∧ ((((decide (n21 < 0)) = true) → (R (TV.tup [(false, [(AV.fz (FV.str (ByteArray.mk #[])))]), (false, [(AV.fz (FV.bool false))])]) [(Ob.g 59 [(AV.fz (FV.sl 1 es11)), (AV.fz (FV.int .i64 n20))])])) ∧ (((decide (n21 < 0)) = false) → (((((List.length o2) + (List.length [[(FV.int .i64 n21)]])) * 8) ≤ 220000000000000) ∧ (token_scanner_strO_L0 R es11 n20 (o2 ++ [[(FV.int .i64 n21)]])))))))))) ∧ (((n17 == 92) = false) → (((((List.length o2) + (List.length [[(FV.int .i64 n17)]])) * 8) ≤ 220000000000000) ∧ (token_scanner_strO_L0 R es9 (IntKind.wrap .i64 (n16 + 1)) (o2 ++ [[(FV.int .i64 n17)]])))))))))))) ∧ ((b2 = false) → (R (TV.tup [(false, [(AV.fz (FV.str (ByteArray.mk #[])))]), (false, [(AV.fz (FV.bool false))])]) [(Ob.g 59 [(AV.fz (FV.sl 1 es8)), (AV.fz (FV.int .i64 n15))])])))))))
theorem token_scanner_strO_l0 {R : TV → List Ob → Prop} {o : List (List FV)} {o1 : Int} {o2 : List (List FV)} (h : token_scanner_strO_R0 R o o1 o2) : token_scanner_strO_L0 R o o1 o2 :=
  LoopAt.by_tr (by kernel_rfl) (by kernel_rfl) h
def token_scanner_strO_H (R : TV → List Ob → Prop) (tx : List (List FV)) (p : Int) : Prop :=
  (token_scanner_strO_L0 R tx p ([] : List (List FV)))
theorem token_scanner_strO_fn (tx : List (List FV)) (p : Int) {r : TV} {h : List Ob} (H : token_scanner_strO_H (fun r' h' => r' = r ∧ Wk h' h) tx p) : Fn Tryd.prog 46 [(TV.one (AV.ptr 0 0 0 59))] [(Ob.g 59 [(AV.fz (FV.sl 1 tx)), (AV.fz (FV.int .i64 p))])] r h :=
  Fn.by_trW (M := (modeOf [] [(22, [(Sig.mk 1 [(false, [(AT.k CK.bool)])] [(OT.g 59 [(AT.k (CK.sl 1)), (AT.k (CK.int .i64))])] 0)]), (34, [(Sig.mk 1 [(false, [(AT.k (CK.int .i64))])] [(OT.g 59 [(AT.k (CK.sl 1)), (AT.k (CK.int .i64))])] 0)]), (63, [(Sig.mk 1 [(false, [(AT.k (CK.int .i64))])] [(OT.g 59 [(AT.k (CK.sl 1)), (AT.k (CK.int .i64))])] 0)])])) (lv := token_scanner_strO_lv) (own := (some 1)) (F := Tryd.f46) (by kernel_rfl) (by kernel_rfl) (by first | decide | simp) (fun _ _ h => h) (by kernel_rfl) H
def token_scanner_charO_lv : List Nat → Keep := lvOf []
def token_scanner_charO_H (R : TV → List Ob → Prop) (tx : List (List FV)) (p : Int) : Prop :=
  (∃ es3 : List (List FV), (∃ n6 : Int, (∃ b2 : Bool, ((Fn Tryd.prog 22 [(TV.one (AV.ptr 0 0 0 59)), (TV.one (AV.fz (FV.int .i64 1)))] [(Ob.g 59 [(AV.fz (FV.sl 1 tx)), (AV.fz (FV.int .i64 p))])] (TV.one (AV.fz (FV.bool b2))) [(Ob.g 59 [(AV.fz (FV.sl 1 es3)), (AV.fz (FV.int .i64 n6))])]) ∧ ((((Bool.not b2) = true) → (R (TV.tup [(false, [(AV.fz (FV.str (ByteArray.mk #[])))]), (false, [(AV.fz (FV.bool false))])]) [(Ob.g 59 [(AV.fz (FV.sl 1 es3)), (AV.fz (FV.int .i64 n6))])])) ∧ (((Bool.not b2) = false) → (∃ es4 : List (List FV), (∃ n7 : Int, (∃ s1 : ByteArray, ((Fn Tryd.prog 48 [(TV.one (AV.ptr 0 0 0 59)), (TV.one (AV.fz (FV.int .i64 1)))] [(Ob.g 59 [(AV.fz (FV.sl 1 es3)), (AV.fz (FV.int .i64 n6))])] (TV.one (AV.fz (FV.str s1))) [(Ob.g 59 [(AV.fz (FV.sl 1 es4)), (AV.fz (FV.int .i64 n7))])]) ∧ (∃ n8 : Int, (∃ b3 : Bool, ((Fn Tryd.prog 64 [(TV.one (AV.fz (FV.str s1)))] [] (TV.tup [(false, [(AV.fz (FV.int .i64 n8))]), (false, [(AV.fz (FV.bool b3))])]) []) ∧ (∃ es5 : List (List FV), (∃ n9 : Int, ((Fn Tryd.prog 62 [(TV.one (AV.fz (FV.sl 1 [[(FV.int .i64 n8)]])))] [] (TV.tup [(false, [(AV.fz (FV.sl 1 es5))]), (false, [(AV.fz (FV.int .i64 n9))])]) []) ∧ (∃ ns1 : List Int, ((es5 = (List.map (fun n10 => [(FV.int .u8 n10)]) ns1)) ∧ (R (TV.tup [(false, [(AV.fz (FV.str (bytesOf ns1)))]), (false, [(AV.fz (FV.bool b3))])]) [(Ob.g 59 [(AV.fz (FV.sl 1 es4)), (AV.fz (FV.int .i64 n7))])])))))))))))))))))))
theorem token_scanner_charO_fn (tx : List (List FV)) (p : Int) {r : TV} {h : List Ob} (H : token_scanner_charO_H (fun r' h' => r' = r ∧ Wk h' h) tx p) : Fn Tryd.prog 47 [(TV.one (AV.ptr 0 0 0 59))] [(Ob.g 59 [(AV.fz (FV.sl 1 tx)), (AV.fz (FV.int .i64 p))])] r h :=
  Fn.by_trW (M := (modeOf [] [(22, [(Sig.mk 1 [(false, [(AT.k CK.bool)])] [(OT.g 59 [(AT.k (CK.sl 1)), (AT.k (CK.int .i64))])] 0)]), (48, [(Sig.mk 1 [(false, [(AT.k CK.str)])] [(OT.g 59 [(AT.k (CK.sl 1)), (AT.k (CK.int .i64))])] 0)])])) (lv := token_scanner_charO_lv) (own := (some 1)) (F := Tryd.f47) (by kernel_rfl) (by kernel_rfl) (by first | decide | simp) (fun _ _ h => h) (by kernel_rfl) H
def token_scanner_datumO_lv : List Nat → Keep := lvOf []
def token_scanner_datumO_H (R : TV → List Ob → Prop) (tx : List (List FV)) (p : Int) : Prop :=
  (∃ es7 : List (List FV), (∃ n7 : Int, (∃ b6 : Bool, ((Fn Tryd.prog 36 [(TV.one (AV.ptr 0 0 0 59)), (TV.one (AV.fz (FV.str (ByteArray.mk #[34]))))] [(Ob.g 59 [(AV.fz (FV.sl 1 tx)), (AV.fz (FV.int .i64 p))])] (TV.one (AV.fz (FV.bool b6))) [(Ob.g 59 [(AV.fz (FV.sl 1 es7)), (AV.fz (FV.int .i64 n7))])]) ∧ (((b6 = true) → (∃ es8 : List (List FV), (∃ n8 : Int, (∃ s4 : ByteArray, (∃ b7 : Bool, ((Fn Tryd.prog 46 [(TV.one (AV.ptr 0 0 0 59))] [(Ob.g 59 [(AV.fz (FV.sl 1 es7)), (AV.fz (FV.int .i64 (IntKind.wrap .i64 (n7 + 1))))])] (TV.tup [(false, [(AV.fz (FV.str s4))]), (false, [(AV.fz (FV.bool b7))])]) [(Ob.g 59 [(AV.fz (FV.sl 1 es8)), (AV.fz (FV.int .i64 n8))])]) ∧ (R (TV.tup [(true, [(AV.fz (FV.int .i64 5)), (AV.fz (FV.str s4)), (AV.fz (FV.bool false)), (AV.ofl 1 1), (AV.ofl 6 2), (AV.fz (FV.int .i64 0))]), (false, [(AV.fz (FV.bool b7))])]) [(Ob.g 59 [(AV.fz (FV.sl 1 es8)), (AV.fz (FV.int .i64 n8))]), (Ob.f 0 1 ([] : List (List FV))), (Ob.f 0 6 ([] : List (List FV)))]))))))) ∧ ((b6 = false) → (∃ es9 : List (List FV), (∃ n9 : Int, (∃ b8 : Bool, ((Fn Tryd.prog 36 [(TV.one (AV.ptr 0 0 0 59)), (TV.one (AV.fz (FV.str (ByteArray.mk #[35, 92]))))] [(Ob.g 59 [(AV.fz (FV.sl 1 es7)), (AV.fz (FV.int .i64 n7))])] (TV.one (AV.fz (FV.bool b8))) [(Ob.g 59 [(AV.fz (FV.sl 1 es9)), (AV.fz (FV.int .i64 n9))])]) ∧ (((b8 = true) → (∃ es10 : List (List FV), (∃ n10 : Int, (∃ s5 : ByteArray, (∃ b9 : Bool, ((Fn Tryd.prog 47 [(TV.one (AV.ptr 0 0 0 59))] [(Ob.g 59 [(AV.fz (FV.sl 1 es9)), (AV.fz (FV.int .i64 (IntKind.wrap .i64 (n9 + 2))))])] (TV.tup [(false, [(AV.fz (FV.str s5))]), (false, [(AV.fz (FV.bool b9))])]) [(Ob.g 59 [(AV.fz (FV.sl 1 es10)), (AV.fz (FV.int .i64 n10))])]) ∧ (R (TV.tup [(true, [(AV.fz (FV.int .i64 6)), (AV.fz (FV.str s5)), (AV.fz (FV.bool false)), (AV.ofl 1 1), (AV.ofl 6 2), (AV.fz (FV.int .i64 0))]), (false, [(AV.fz (FV.bool b9))])]) [(Ob.g 59 [(AV.fz (FV.sl 1 es10)), (AV.fz (FV.int .i64 n10))]), (Ob.f 0 1 ([] : List (List FV))), (Ob.f 0 6 ([] : List (List FV)))]))))))) ∧ ((b8 = false) → (∃ es11 : List (List FV), (∃ n11 : Int, (∃ s6 : ByteArray, ((Fn Tryd.prog 48 [(TV.one (AV.ptr 0 0 0 59)), (TV.one (AV.fz (FV.int .i64 0)))] [(Ob.g 59 [(AV.fz (FV.sl 1 es9)), (AV.fz (FV.int .i64 n9))])] (TV.one (AV.fz (FV.str s6))) [(Ob.g 59 [(AV.fz (FV.sl 1 es11)), (AV.fz (FV.int .i64 n11))])]) ∧ (∃ n12 : Int, (∃ s7 : ByteArray, (∃ b10 : Bool, (∃ es12 : List (List FV), (∃ es13 : List (List FV), (∃ n13 : Int, (∃ b11 : Bool, ((Fn Tryd.prog 16 [(TV.one (AV.fz (FV.str s6)))] [] (TV.tup [(true, [(AV.fz (FV.int .i64 n12)), (AV.fz (FV.str s7)), (AV.fz (FV.bool b10)), (AV.fz (FV.sl 1 es12)), (AV.fz (FV.sl 6 es13)), (AV.fz (FV.int .i64 n13))]), (false, [(AV.fz (FV.bool b11))])]) []) ∧ (R (TV.tup [(true, [(AV.fz (FV.int .i64 n12)), (AV.fz (FV.str s7)), (AV.fz (FV.bool b10)), (AV.fz (FV.sl 1 es12)), (AV.fz (FV.sl 6 es13)), (AV.fz (FV.int .i64 n13))]), (false, [(AV.fz (FV.bool b11))])]) [(Ob.g 59 [(AV.fz (FV.sl 1 es11)), (AV.fz (FV.int .i64 n11))])])))))))))))))))))))))))))
theorem token_scanner_datumO_fc (tx : List (List FV)) (p : Int) {r : TV} {h : List Ob} (H : token_scanner_datumO_H (fun r' h' => Cool 1 r' h' r h) tx p) : Fn Tryd.prog 37 [(TV.one (AV.ptr 0 0 0 59))] [(Ob.g 59 [(AV.fz (FV.sl 1 tx)), (AV.fz (FV.int .i64 p))])] r h :=
  Fn.by_trC (M := (modeOf [] [(36, [(Sig.mk 1 [(false, [(AT.k CK.bool)])] [(OT.g 59 [(AT.k (CK.sl 1)), (AT.k (CK.int .i64))])] 0)]), (48, [(Sig.mk 1 [(false, [(AT.k CK.str)])] [(OT.g 59 [(AT.k (CK.sl 1)), (AT.k (CK.int .i64))])] 0)]), (46, [(Sig.mk 1 [(false, [(AT.k CK.str)]), (false, [(AT.k CK.bool)])] [(OT.g 59 [(AT.k (CK.sl 1)), (AT.k (CK.int .i64))])] 0)]), (47, [(Sig.mk 1 [(false, [(AT.k CK.str)]), (false, [(AT.k CK.bool)])] [(OT.g 59 [(AT.k (CK.sl 1)), (AT.k (CK.int .i64))])] 0)])])) (lv := token_scanner_datumO_lv) (own := (some 1)) (F := Tryd.f37) (by kernel_rfl) (by kernel_rfl) (by first | decide | simp) (fun _ _ h => h) (by kernel_rfl) H
def token_Scan_1_lv : List Nat → Keep := lvOf []
def token_Scan_1_H (R : TV → List Ob → Prop) (c : Int) : Prop :=
  (∃ b1 : Bool, ((Fn Tryd.prog 19 [(TV.one (AV.fz (FV.int .i64 c)))] [] (TV.one (AV.fz (FV.bool b1))) []) ∧ (R (TV.one (AV.fz (FV.bool (Bool.not b1)))) [])))
theorem token_Scan_1_fn (c : Int) {r : TV} {h : List Ob} (H : token_Scan_1_H (fun r' h' => r' = r ∧ h' = h) c) : Fn Tryd.prog 18 [(TV.one (AV.fz (FV.int .i64 c)))] [] r h :=
  Fn.by_tr (M := (modeOf [] [])) (lv := token_Scan_1_lv) (own := none) (F := Tryd.f18) (by kernel_rfl) (by kernel_rfl) (by first | decide | simp) (fun _ _ h => h) (by kernel_rfl) H
end Go.Proofs.YtejefchehdifhaaDoor.Ev
end
section
set_option linter.unusedVariables false
set_option maxRecDepth 100000
namespace Go.Proofs.YtejefchehdifhaaDoor.Ev
open Go
def utf_Scalar_lv : List Nat → Keep := lvOf []
def utf_Scalar_H (R : TV → List Ob → Prop) (c : Int) : Prop :=
  ((((decide ((0 : Int) ≤ c)) = true) → ((((decide (c ≤ 1114111)) = true) → (∃ b1 : Bool, ((Fn Tryd.prog 33 [(TV.one (AV.fz (FV.int .i32 (IntKind.wrap .i32 c))))] [] (TV.one (AV.fz (FV.bool b1))) []) ∧ (R (TV.one (AV.fz (FV.bool b1))) [])))) ∧ (((decide (c ≤ 1114111)) = false) → (R (TV.one (AV.fz (FV.bool false))) [])))) ∧ (((decide ((0 : Int) ≤ c)) = false) → (R (TV.one (AV.fz (FV.bool false))) [])))
theorem utf_Scalar_fn (c : Int) {r : TV} {h : List Ob} (H : utf_Scalar_H (fun r' h' => r' = r ∧ h' = h) c) : Fn Tryd.prog 19 [(TV.one (AV.fz (FV.int .i64 c)))] [] r h :=
  Fn.by_tr (M := (modeOf [] [])) (lv := utf_Scalar_lv) (own := none) (F := Tryd.f19) (by kernel_rfl) (by kernel_rfl) (by first | decide | simp) (fun _ _ h => h) (by kernel_rfl) H
def utf_Named_lv : List Nat → Keep := lvOf [([0, 1, 0, 1], ⟨12289, 0, [], false, false⟩)]
def utf_Named_S0 (s : ByteArray) (i : Int) : St := (St.mk [(TV.one (AV.fz (FV.str s))), TV.und, TV.und, TV.und, TV.und, TV.und, TV.und, TV.und, TV.und, TV.und, TV.und, TV.und, (TV.agg [(AV.fz (FV.int .i64 32)), (AV.fz (FV.str (ByteArray.mk #[115, 112, 97, 99, 101]))), (AV.fz (FV.int .i64 10)), (AV.fz (FV.str (ByteArray.mk #[110, 101, 119, 108, 105, 110, 101]))), (AV.fz (FV.int .i64 9)), (AV.fz (FV.str (ByteArray.mk #[116, 97, 98]))), (AV.fz (FV.int .i64 13)), (AV.fz (FV.str (ByteArray.mk #[114, 101, 116, 117, 114, 110]))), (AV.fz (FV.int .i64 0)), (AV.fz (FV.str (ByteArray.mk #[110, 117, 108, 108]))), (AV.fz (FV.int .i64 127)), (AV.fz (FV.str (ByteArray.mk #[100, 101, 108, 101, 116, 101])))]), (TV.one (AV.fz (FV.int .i64 i))), TV.und, TV.und, TV.und, TV.und, TV.und, TV.und, TV.und, TV.und, TV.und, TV.und, TV.und, TV.und, TV.und, TV.und, TV.und, TV.und, TV.und, TV.und, TV.und, TV.und, TV.und, TV.und, TV.und, TV.und, TV.und, TV.und, TV.und, TV.und, TV.und, TV.und, TV.und, TV.und, TV.und, TV.und, TV.und, TV.und, TV.und, TV.und, TV.und, TV.und, TV.und, TV.und, TV.und, TV.und, TV.und, TV.und, TV.und, TV.und, TV.und, TV.und, TV.und, TV.und, TV.und, TV.und, TV.und, TV.und, TV.und, TV.und, TV.und, TV.und, TV.und, TV.und, TV.und, TV.und] [])
def utf_Named_L0 (R : TV → List Ob → Prop) (s : ByteArray) (i : Int) : Prop := LoopAt Tryd.prog (modeOf [] []) utf_Named_lv Tryd.f64 none R [1, 0, 1, 0] (utf_Named_S0 s i)
def utf_Named_R0 (R : TV → List Ob → Prop) (s : ByteArray) (i : Int) : Prop :=
  ((((decide (i < 6)) = true) → ((((0 : Int) ≤ i) ∧ (i < 6)) ∧ (∃ n12 : Int, (∃ s15 : ByteArray, ((cutT [(AV.fz (FV.int .i64 32)), (AV.fz (FV.str (ByteArray.mk #[115, 112, 97, 99, 101]))), (AV.fz (FV.int .i64 10)), (AV.fz (FV.str (ByteArray.mk #[110, 101, 119, 108, 105, 110, 101]))), (AV.fz (FV.int .i64 9)), (AV.fz (FV.str (ByteArray.mk #[116, 97, 98]))), (AV.fz (FV.int .i64 13)), (AV.fz (FV.str (ByteArray.mk #[114, 101, 116, 117, 114, 110]))), (AV.fz (FV.int .i64 0)), (AV.fz (FV.str (ByteArray.mk #[110, 117, 108, 108]))), (AV.fz (FV.int .i64 127)), (AV.fz (FV.str (ByteArray.mk #[100, 101, 108, 101, 116, 101])))] ((Int.toNat i) * 2) 2 [(FV.int .i64 n12), (FV.str s15)]) ∧ (((((ByteArray.toList s15) == (ByteArray.toList s)) = true) → (R (TV.tup [(false, [(AV.fz (FV.int .i64 n12))]), (false, [(AV.fz (FV.bool true))])]) [])) ∧ ((((ByteArray.toList s15) == (ByteArray.toList s)) = false) → (utf_Named_L0 R s (IntKind.wrap .i64 (i + 1)))))))))) ∧ (((decide (i < 6)) = false) → (∃ n13 : Int, (∃ n14 : Int, ((Fn Tryd.prog 66 [(TV.one (AV.fz (FV.str s)))] [] (TV.tup [(false, [(AV.fz (FV.int .i32 n13))]), (false, [(AV.fz (FV.int .i64 n14))])]) []) ∧ ((((n14 == (((ByteArray.size s) : Nat) : Int)) = true) → ((((decide ((0 : Int) < n14)) = true) → ((((n13 != 65533) = true) → (R (TV.tup [(false, [(AV.fz (FV.int .i64 (IntKind.wrap .i64 n13)))]), (false, [(AV.fz (FV.bool true))])]) [])) ∧ (((n13 != 65533) = false) → ((((decide ((1 : Int) < n14)) = true) → (R (TV.tup [(false, [(AV.fz (FV.int .i64 (IntKind.wrap .i64 n13)))]), (false, [(AV.fz (FV.bool true))])]) [])) ∧ (((decide ((1 : Int) < n14)) = false) → (∃ s16 : ByteArray, (∃ b18 : Bool, ((Fn Tryd.prog 77 [(TV.one (AV.fz (FV.str s))), (TV.one (AV.fz (FV.str (ByteArray.mk #[120]))))] [] (TV.tup [(false, [(AV.fz (FV.str s16))]), (false, [(AV.fz (FV.bool b18))])]) []) ∧ ((((Bool.not b18) = true) → (R (TV.tup [(false, [(AV.fz (FV.int .i64 0))]), (false, [(AV.fz (FV.bool false))])]) [])) ∧ (((Bool.not b18) = false) → ((((decide ((6 : Int) < (((ByteArray.size s16) : Nat) : Int))) = true) → (R (TV.tup [(false, [(AV.fz (FV.int .i64 0))]), (false, [(AV.fz (FV.bool false))])]) [])) ∧ (((decide ((6 : Int) < (((ByteArray.size s16) : Nat) : Int))) = false) → (∃ s17 : ByteArray, ((Fn Tryd.prog 39 [(TV.one (AV.fz (FV.str s16))), (TV.one (AV.fz (FV.str (ByteArray.mk #[48, 49, 50, 51, 52, 53, 54, 55, 56, 57, 97, 98, 99, 100, 101, 102, 65, 66, 67, 68, 69, 70]))))] [] (TV.one (AV.fz (FV.str s17))) []) ∧ ((((Bool.not ((ByteArray.toList s17) == (ByteArray.toList (ByteArray.mk #[])))) = true) → (R (TV.tup [(false, [(AV.fz (FV.int .i64 0))]), (false, [(AV.fz (FV.bool false))])]) [])) ∧ (((Bool.not ((ByteArray.toList s17) == (ByteArray.toList (ByteArray.mk #[])))) = false) → (∃ n15 : Int, (∃ b19 : Bool, ((Fn Tryd.prog 78 [(TV.one (AV.fz (FV.str s16))), (TV.one (AV.fz (FV.int .i64 16))), (TV.one (AV.fz (FV.int .i64 32)))] [] (TV.tup [(false, [(AV.fz (FV.int .u64 n15))]), (false, [(AV.fz (FV.ifc b19))])]) []) ∧ ((((Bool.not (Bool.not b19)) = true) → (R (TV.tup [(false, [(AV.fz (FV.int .i64 0))]), (false, [(AV.fz (FV.bool false))])]) [])) ∧ (((Bool.not (Bool.not b19)) = false) → (∃ b20 : Bool, ((Fn Tryd.prog 19 [(TV.one (AV.fz (FV.int .i64 (IntKind.wrap .i64 n15))))] [] (TV.one (AV.fz (FV.bool b20))) []) ∧ ((((Bool.not b20) = true) → (R (TV.tup [(false, [(AV.fz (FV.int .i64 0))]), (false, [(AV.fz (FV.bool false))])]) [])) ∧ (((Bool.not b20) = false) → (R (TV.tup [(false, [(AV.fz (FV.int .i64 (IntKind.wrap .i64 n15)))]), (false, [(AV.fz (FV.bool true))])]) [])))))))))))))))))))))))))) ∧ (((decide ((0 : Int) < n14)) = false) → (∃ s18 : ByteArray, (∃ b21 : Bool, ((Fn Tryd.prog 77 [(TV.one (AV.fz (FV.str s))), (TV.one (AV.fz (FV.str (ByteArray.mk #[120]))))] [] (TV.tup [(false, [(AV.fz (FV.str s18))]), (false, [(AV.fz (FV.bool b21))])]) []) ∧ ((((Bool.not b21) = true) → (R (TV.tup [(false, [(AV.fz (FV.int .i64 0))]), (false, [(AV.fz (FV.bool false))])]) [])) ∧ (((Bool.not b21) = false) → ((((decide ((6 : Int) < (((ByteArray.size s18) : Nat) : Int))) = true) → (R (TV.tup [(false, [(AV.fz (FV.int .i64 0))]), (false, [(AV.fz (FV.bool false))])]) [])) ∧ (((decide ((6 : Int) < (((ByteArray.size s18) : Nat) : Int))) = false) → (∃ s19 : ByteArray, ((Fn Tryd.prog 39 [(TV.one (AV.fz (FV.str s18))), (TV.one (AV.fz (FV.str (ByteArray.mk #[48, 49, 50, 51, 52, 53, 54, 55, 56, 57, 97, 98, 99, 100, 101, 102, 65, 66, 67, 68, 69, 70]))))] [] (TV.one (AV.fz (FV.str s19))) []) ∧ ((((Bool.not ((ByteArray.toList s19) == (ByteArray.toList (ByteArray.mk #[])))) = true) → (R (TV.tup [(false, [(AV.fz (FV.int .i64 0))]), (false, [(AV.fz (FV.bool false))])]) [])) ∧ (((Bool.not ((ByteArray.toList s19) == (ByteArray.toList (ByteArray.mk #[])))) = false) → (∃ n16 : Int, (∃ b22 : Bool, ((Fn Tryd.prog 78 [(TV.one (AV.fz (FV.str s18))), (TV.one (AV.fz (FV.int .i64 16))), (TV.one (AV.fz (FV.int .i64 32)))] [] (TV.tup [(false, [(AV.fz (FV.int .u64 n16))]), (false, [(AV.fz (FV.ifc b22))])]) []) ∧ ((((Bool.not (Bool.not b22)) = true) → (R (TV.tup [(false, [(AV.fz (FV.int .i64 0))]), (false, [(AV.fz (FV.bool false))])]) [])) ∧ (((Bool.not (Bool.not b22)) = false) → (∃ b23 : Bool, ((Fn Tryd.prog 19 [(TV.one (AV.fz (FV.int .i64 (IntKind.wrap .i64 n16))))] [] (TV.one (AV.fz (FV.bool b23))) []) ∧ ((((Bool.not b23) = true) → (R (TV.tup [(false, [(AV.fz (FV.int .i64 0))]), (false, [(AV.fz (FV.bool false))])]) [])) ∧ (((Bool.not b23) = false) → (R (TV.tup [(false, [(AV.fz (FV.int .i64 (IntKind.wrap .i64 n16)))]), (false, [(AV.fz (FV.bool true))])]) [])))))))))))))))))))))))) ∧ (((n14 == (((ByteArray.size s) : Nat) : Int)) = false) → (∃ s20 : ByteArray, (∃ b24 : Bool, ((Fn Tryd.prog 77 [(TV.one (AV.fz (FV.str s))), (TV.one (AV.fz (FV.str (ByteArray.mk #[120]))))] [] (TV.tup [(false, [(AV.fz (FV.str s20))]), (false, [(AV.fz (FV.bool b24))])]) []) ∧ ((((Bool.not b24) = true) → (R (TV.tup [(false, [(AV.fz (FV.int .i64 0))]), (false, [(AV.fz (FV.bool false))])]) [])) ∧ (((Bool.not b24) = false) → ((((decide ((6 : Int) < (((ByteArray.size s20) : Nat) : Int))) = true) → (R (TV.tup [(false, [(AV.fz (FV.int .i64 0))]), (false, [(AV.fz (FV.bool false))])]) [])) ∧ (((decide ((6 : Int) < (((ByteArray.size s20) : Nat) : Int))) = false) → (∃ s21 : ByteArray, ((Fn Tryd.prog 39 [(TV.one (AV.fz (FV.str s20))), (TV.one (AV.fz (FV.str (ByteArray.mk #[48, 49, 50, 51, 52, 53, 54, 55, 56, 57, 97, 98, 99, 100, 101, 102, 65, 66, 67, 68, 69, 70]))))] [] (TV.one (AV.fz (FV.str s21))) []) ∧ ((((Bool.not ((ByteArray.toList s21) == (ByteArray.toList (ByteArray.mk #[])))) = true) → (R (TV.tup [(false, [(AV.fz (FV.int .i64 0))]), (false, [(AV.fz (FV.bool false))])]) [])) ∧ (((Bool.not ((ByteArray.toList s21) == (ByteArray.toList (ByteArray.mk #[])))) = false) → (∃ n17 : Int, (∃ b25 : Bool, ((Fn Tryd.prog 78 [(TV.one (AV.fz (FV.str s20))), (TV.one (AV.fz (FV.int .i64 16))), (TV.one (AV.fz (FV.int .i64 32)))] [] (TV.tup [(false, [(AV.fz (FV.int .u64 n17))]), (false, [(AV.fz (FV.ifc b25))])]) []) ∧ ((((Bool.not (Bool.not b25)) = true) → (R (TV.tup [(false, [(AV.fz (FV.int .i64 0))]), (false, [(AV.fz (FV.bool false))])]) [])) ∧ (((Bool.not (Bool.not b25)) = false) → (∃ b26 : Bool, ((Fn Tryd.prog 19 [(TV.one (AV.fz (FV.int .i64 (IntKind.wrap .i64 n17))))] [] (TV.one (AV.fz (FV.bool b26))) []) ∧ ((((Bool.not b26) = true) → (R (TV.tup [(false, [(AV.fz (FV.int .i64 0))]), (false, [(AV.fz (FV.bool false))])]) [])) ∧ (((Bool.not b26) = false) → (R (TV.tup [(false, [(AV.fz (FV.int .i64 (IntKind.wrap .i64 n17)))]), (false, [(AV.fz (FV.bool true))])]) []))))))))))))))))))))))))))))
theorem utf_Named_l0 {R : TV → List Ob → Prop} {s : ByteArray} {i : Int} (h : utf_Named_R0 R s i) : utf_Named_L0 R s i :=
  LoopAt.by_tr (by kernel_rfl) (by kernel_rfl) h
def utf_Named_H (R : TV → List Ob → Prop) (s : ByteArray) : Prop :=
  (utf_Named_L0 R s 0)
theorem utf_Named_fn (s : ByteArray) {r : TV} {h : List Ob} (H : utf_Named_H (fun r' h' => r' = r ∧ h' = h) s) : Fn Tryd.prog 64 [(TV.one (AV.fz (FV.str s)))] [] r h :=
  Fn.by_tr (M := (modeOf [] [])) (lv := utf_Named_lv) (own := none) (F := Tryd.f64) (by kernel_rfl) (by kernel_rfl) (by first | decide | simp) (fun _ _ h => h) (by kernel_rfl) H
def utf_Encode_lv : List Nat → Keep := lvOf [([0, 1, 0, 1, 1], ⟨912, 0, [], false, false⟩)]
def utf_Encode_S0 (list : List (List FV)) (i : Int) (o : List (List FV)) : St := (St.mk [TV.und, TV.und, TV.und, TV.und, (TV.one (AV.ofl 1 0)), TV.und, TV.und, (TV.one (AV.fz (FV.sl 1 list))), (TV.one (AV.fz (FV.int .i64 (((List.length list) : Nat) : Int)))), (TV.one (AV.fz (FV.int .i64 i))), TV.und, TV.und, TV.und, TV.und, TV.und, TV.und, TV.und, TV.und, TV.und, TV.und, TV.und, TV.und] [(Ob.f 0 1 o)])
def utf_Encode_L0 (R : TV → List Ob → Prop) (list : List (List FV)) (i : Int) (o : List (List FV)) : Prop := LoopAt Tryd.prog (modeOf [] [(75, [(Sig.mk 0 [(false, [(AT.a (AV.ofl 1 0))])] [(OT.f 0 1)] 1), (Sig.mk 1 [(false, [(AT.a (AV.ofl 1 1))])] [OT.no, (OT.f 0 1)] 1)])]) utf_Encode_lv Tryd.f62 none R [1, 1, 0, 1, 0] (utf_Encode_S0 list i o)
def utf_Encode_R0 (R : TV → List Ob → Prop) (list : List (List FV)) (i : Int) (o : List (List FV)) : Prop :=
  ((((decide (i < (((List.length list) : Nat) : Int))) = true) → (((0 : Int) ≤ i) ∧ (∃ n2 : Int, (((list)[(Int.toNat i)]? = (some [(FV.int .i64 n2)])) ∧ (∃ b2 : Bool, ((Fn Tryd.prog 19 [(TV.one (AV.fz (FV.int .i64 n2)))] [] (TV.one (AV.fz (FV.bool b2))) []) ∧ ((((Bool.not b2) = true) → (R (TV.tup [(false, [(AV.fz (FV.sl 1 ([] : List (List FV))))]), (false, [(AV.fz (FV.int .i64 1))])]) [])) ∧ (((Bool.not b2) = false) → (∃ es2 : List (List FV), ((Fn Tryd.prog 75 [(TV.one (AV.ofl 1 0)), (TV.one (AV.fz (FV.int .i32 (IntKind.wrap .i32 n2))))] [(Ob.f 0 1 o)] (TV.one (AV.ofl 1 1)) [Ob.no, (Ob.f 0 1 es2)]) ∧ (utf_Encode_L0 R list (IntKind.wrap .i64 (i + 1)) es2))))))))))) ∧ (((decide (i < (((List.length list) : Nat) : Int))) = false) → (R (TV.tup [(false, [(AV.fz (FV.sl 1 o))]), (false, [(AV.fz (FV.int .i64 0))])]) [])))
theorem utf_Encode_l0 {R : TV → List Ob → Prop} {list : List (List FV)} {i : Int} {o : List (List FV)} (h : utf_Encode_R0 R list i o) : utf_Encode_L0 R list i o :=
  LoopAt.by_tr (by kernel_rfl) (by kernel_rfl) h
def utf_Encode_H (R : TV → List Ob → Prop) (list : List (List FV)) : Prop :=
  (utf_Encode_L0 R list 0 ([] : List (List FV)))
theorem utf_Encode_fn (list : List (List FV)) {r : TV} {h : List Ob} (H : utf_Encode_H (fun r' h' => r' = r ∧ h' = h) list) : Fn Tryd.prog 62 [(TV.one (AV.fz (FV.sl 1 list)))] [] r h :=
  Fn.by_tr (M := (modeOf [] [(75, [(Sig.mk 0 [(false, [(AT.a (AV.ofl 1 0))])] [(OT.f 0 1)] 1), (Sig.mk 1 [(false, [(AT.a (AV.ofl 1 1))])] [OT.no, (OT.f 0 1)] 1)])])) (lv := utf_Encode_lv) (own := none) (F := Tryd.f62) (by kernel_rfl) (by kernel_rfl) (by first | decide | simp) (fun _ _ h => h) (by kernel_rfl) H
end Go.Proofs.YtejefchehdifhaaDoor.Ev
end
section
set_option linter.unusedVariables false
set_option linter.unusedSimpArgs false
namespace Go.Proofs.YtejefchehdifhaaDoor.Ev
open Go
theorem ValidRune_ok (c : Int) : Fn Tryd.prog 33 [fzI .i32 c] [] (fzB (scalB c)) [] := by
  refine unicode_utf8_ValidRune_fn _ ?_
  obtain ⟨R, hR, hRe⟩ := exR (fzB (scalB c)); rw [hRe]; clear hRe
  have fin : ∀ b, b = scalB c → R (fzB b) [] := fun b h => by rw [h]; exact hR
  unfold unicode_utf8_ValidRune_H
  simp only [dec_t, dec_f]
  unfold scalB at fin
  refine ⟨fun h0 => ⟨fun h1 => fin _ ?_, fun h1 => ⟨fun h2 => ⟨fun h3 => fin _ ?_, fun h3 => fin _ ?_⟩, fun h2 => fin _ ?_⟩⟩, fun h0 => ⟨fun h2 => ⟨fun h3 => fin _ ?_, fun h3 => fin _ ?_⟩, fun h2 => fin _ ?_⟩⟩
  · simp; omega
  · simp; omega
  · simp; omega
  · simp; omega
  · simp; omega
  · simp; omega
  · simp; omega
theorem uScalar_ok (c : Int) : Fn Tryd.prog 19 [fzI .i64 c] [] (fzB (scalB c)) [] := by
  refine utf_Scalar_fn _ ?_
  obtain ⟨R, hR, hRe⟩ := exR (fzB (scalB c)); rw [hRe]; clear hRe
  unfold utf_Scalar_H
  simp only [dec_t, dec_f]
  refine ⟨fun h0 => ⟨fun h1 => ⟨scalB c, ?_, hR⟩, fun h1 => ?_⟩, fun h0 => ?_⟩
  · rw [w32_in (by omega) (by omega)]; exact ValidRune_ok c
  · have : scalB c = false := by unfold scalB; simp; omega
    rw [this] at hR; exact hR
  · have : scalB c = false := by unfold scalB; simp; omega
    rw [this] at hR; exact hR
theorem scanFn1_ok (c : Int) : Fn Tryd.prog 18 [fzI .i64 c] [] (fzB (!(scalB c))) [] := by
  refine token_Scan_1_fn _ ?_
  unfold token_Scan_1_H
  exact ⟨scalB c, uScalar_ok c, rfl, rfl⟩
theorem u8_mod (y : Int) : IntKind.wrap .u8 y = y % 256 := rfl
theorem cont_bits (y : Int) (h : 0 ≤ y) : IntKind.wrap .u8 (((BitVec.toNat ((BitVec.ofInt 8 128) ||| (BitVec.ofInt 8 (IntKind.wrap .u8 (((BitVec.toNat ((BitVec.ofInt 8 (IntKind.wrap .u8 y)) &&& (BitVec.ofInt 8 63))) : Nat) : Int))))) : Nat) : Int) = 128 + y % 64 := by
  have key : ∀ n : Fin 256, IntKind.wrap .u8 (((BitVec.toNat ((BitVec.ofInt 8 128) ||| (BitVec.ofInt 8 (IntKind.wrap .u8 (((BitVec.toNat ((BitVec.ofInt 8 (n.val : Int)) &&& (BitVec.ofInt 8 63))) : Nat) : Int))))) : Nat) : Int) = 128 + (n.val : Int) % 64 := by decide +kernel
  have h2 := key ⟨(y % 256).toNat, by omega⟩
  have h3 : (((y % 256).toNat : Nat) : Int) = y % 256 := by omega
  simp only [h3] at h2
  rw [u8_mod y, h2]
  omega
theorem lead192 (y : Int) (h0 : 0 ≤ y) (h1 : y < 32) : IntKind.wrap .u8 (((BitVec.toNat ((BitVec.ofInt 8 192) ||| (BitVec.ofInt 8 (IntKind.wrap .u8 y)))) : Nat) : Int) = 192 + y := by
  have k1 : ∀ n : Fin 32, IntKind.wrap .u8 (((BitVec.toNat ((BitVec.ofInt 8 192) ||| (BitVec.ofInt 8 (IntKind.wrap .u8 (n.val : Int))))) : Nat) : Int) = 192 + (n.val : Int) := by decide +kernel
  have h3 : ((y.toNat : Nat) : Int) = y := by omega
  have := k1 ⟨y.toNat, by omega⟩
  simp only [h3] at this; exact this
theorem lead224 (y : Int) (h0 : 0 ≤ y) (h1 : y < 16) : IntKind.wrap .u8 (((BitVec.toNat ((BitVec.ofInt 8 224) ||| (BitVec.ofInt 8 (IntKind.wrap .u8 y)))) : Nat) : Int) = 224 + y := by
  have k1 : ∀ n : Fin 16, IntKind.wrap .u8 (((BitVec.toNat ((BitVec.ofInt 8 224) ||| (BitVec.ofInt 8 (IntKind.wrap .u8 (n.val : Int))))) : Nat) : Int) = 224 + (n.val : Int) := by decide +kernel
  have h3 : ((y.toNat : Nat) : Int) = y := by omega
  have := k1 ⟨y.toNat, by omega⟩
  simp only [h3] at this; exact this
theorem lead240 (y : Int) (h0 : 0 ≤ y) (h1 : y < 8) : IntKind.wrap .u8 (((BitVec.toNat ((BitVec.ofInt 8 240) ||| (BitVec.ofInt 8 (IntKind.wrap .u8 y)))) : Nat) : Int) = 240 + y := by
  have k1 : ∀ n : Fin 8, IntKind.wrap .u8 (((BitVec.toNat ((BitVec.ofInt 8 240) ||| (BitVec.ofInt 8 (IntKind.wrap .u8 (n.val : Int))))) : Nat) : Int) = 240 + (n.val : Int) := by decide +kernel
  have h3 : ((y.toNat : Nat) : Int) = y := by omega
  have := k1 ⟨y.toNat, by omega⟩
  simp only [h3] at this; exact this
theorem exW (v : TV) (h : List Ob) : ∃ R : TV → List Ob → Prop, (∀ h', Wk h' h → R v h') ∧ (fun r' h' => r' = v ∧ Wk h' h) = R := ⟨_, fun _ hw => ⟨rfl, hw⟩, rfl⟩
theorem scal_in {c : Int} (h : scalB c = true) : 0 ≤ c ∧ c ≤ 1114111 ∧ ¬ (55296 ≤ c ∧ c ≤ 57343) := by
  unfold scalB at h
  simp only [Bool.and_eq_true, decide_eq_true_eq, Bool.not_eq_true', Bool.and_eq_false_iff, decide_eq_false_iff_not] at h
  omega
theorem fd6 {c : Int} (h : 0 ≤ c) : Int.fdiv c (2 ^ (min (Int.toNat 6) 32)) = c / 64 := Int.fdiv_eq_ediv_of_nonneg c (by decide)
theorem fd12 {c : Int} (h : 0 ≤ c) : Int.fdiv c (2 ^ (min (Int.toNat 12) 32)) = c / 4096 := Int.fdiv_eq_ediv_of_nonneg c (by decide)
theorem fd18 {c : Int} (h : 0 ≤ c) : Int.fdiv c (2 ^ (min (Int.toNat 18) 32)) = c / 262144 := Int.fdiv_eq_ediv_of_nonneg c (by decide)
theorem utfB_two {c : Int} (h : 128 ≤ c) (h2 : c < 2048) : ints .u8 (utfB c) = [[FV.int .u8 (192 + c / 64)], [FV.int .u8 (128 + c % 64)]] := by
  unfold utfB; rw [if_neg (by omega), if_pos h2]; rfl
theorem utfB_three {c : Int} (h : 2048 ≤ c) (h2 : c < 65536) : ints .u8 (utfB c) = [[FV.int .u8 (224 + c / 4096)], [FV.int .u8 (128 + c / 64 % 64)], [FV.int .u8 (128 + c % 64)]] := by
  unfold utfB; rw [if_neg (by omega), if_neg (by omega), if_pos h2]; rfl
theorem utfB_four {c : Int} (h : 65536 ≤ c) : ints .u8 (utfB c) = [[FV.int .u8 (240 + c / 262144)], [FV.int .u8 (128 + c / 4096 % 64)], [FV.int .u8 (128 + c / 64 % 64)], [FV.int .u8 (128 + c % 64)]] := by
  unfold utfB; rw [if_neg (by omega), if_neg (by omega), if_neg (by omega)]; rfl
theorem appNA1 {c : Int} (h : scalB c = true) (hc : 128 ≤ c) (l : List Int) (hl : l.length ≤ 200000000000000) :
    Fn Tryd.prog 86 [.one (.ofl 1 0), fzI .i32 c] [.f 0 1 (ints .u8 l)] (.one (.ofl 1 1)) [.no, .f 0 1 (ints .u8 (l ++ utfB c))] := by
  obtain ⟨h0, h1, hs⟩ := scal_in h
  refine unicode_utf8_appendRuneNonASCII1_fn _ _ ?_
  obtain ⟨R, hR, hRe⟩ := exW (.one (.ofl 1 1)) [.no, .f 0 1 (ints .u8 (l ++ utfB c))]; rw [hRe]; clear hRe
  rw [← ints_app] at hR
  unfold unicode_utf8_appendRuneNonASCII1_H
  simp only [dec_t, dec_f, wu32 h0 (by omega : c ≤ 4294967295), fd6 h0, fd12 h0, fd18 h0, cont_bits c h0, cont_bits (c / 64) (by omega), cont_bits (c / 4096) (by omega), ints_len, List.length_cons, List.length_nil]
  refine ⟨fun a1 => ?_, fun a1 => ⟨fun a2 => ?_, fun a2 => ⟨fun a3 => ⟨fun a4 => ?_, fun a4 => ⟨fun a5 => ⟨fun a6 => ?_, fun a6 => absurd a6 (by omega)⟩, fun a5 => absurd a5 (by omega)⟩⟩, fun a3 => absurd a3 (by omega)⟩⟩⟩
  · rw [lead192 _ (by omega) (by omega), ← utfB_two hc (by omega)]
    exact ⟨by omega, by omega, hR _ (Wk.refl _)⟩
  · rw [lead224 _ (by omega) (by omega), ← utfB_three (by omega) (by omega)]
    exact ⟨by omega, by omega, by omega, hR _ (Wk.refl _)⟩
  · rw [lead224 _ (by omega) (by omega), ← utfB_three (by omega) (by omega)]
    exact ⟨by omega, by omega, by omega, hR _ (Wk.refl _)⟩
  · rw [lead240 _ (by omega) (by omega), ← utfB_four (by omega)]
    exact ⟨by omega, by omega, by omega, by omega, hR _ (Wk.refl _)⟩
theorem append1_ok {c : Int} (h : scalB c = true) (l : List Int) (hl : l.length ≤ 200000000000000) :
    Fn Tryd.prog 75 [.one (.ofl 1 0), fzI .i32 c] [.f 0 1 (ints .u8 l)] (.one (.ofl 1 1)) [.no, .f 0 1 (ints .u8 (l ++ utfB c))] := by
  obtain ⟨h0, h1, hs⟩ := scal_in h
  refine unicode_utf8_AppendRune1_fn _ _ ?_
  obtain ⟨R, hR, hRe⟩ := exW (.one (.ofl 1 1)) [.no, .f 0 1 (ints .u8 (l ++ utfB c))]; rw [hRe]; clear hRe
  unfold unicode_utf8_AppendRune1_H
  simp only [dec_t, dec_f, wu32 h0 (by omega : c ≤ 4294967295), ints_len, List.length_cons, List.length_nil]
  refine ⟨fun a1 => ⟨by omega, ?_⟩, fun a1 => ⟨_, appNA1 h (by omega) l hl, hR _ (Wk.refl _)⟩⟩
  rw [wu8 h0 (by omega), ints_snoc]
  have : utfB c = [c] := by unfold utfB; rw [if_pos (by omega)]
  rw [this] at hR
  exact hR _ (Wk.refl _)
def enc (l : List Int) : List Int := (l.map utfB).flatten
theorem enc_cons (c : Int) (l : List Int) : enc (c :: l) = utfB c ++ enc l := rfl
theorem enc_app (l m : List Int) : enc (l ++ m) = enc l ++ enc m := by simp [enc]
theorem utfB_le (c : Int) : (utfB c).length ≤ 4 := by
  have := utfB_len c
  split at this
  · omega
  · split at this
    · omega
    · split at this <;> omega
theorem enc_len (l : List Int) : (enc l).length ≤ 4 * l.length := by
  induction l with
  | nil => simp [enc]
  | cons c r ih =>
    rw [enc_cons]
    have := utfB_le c
    simp only [List.length_append, List.length_cons]
    omega
theorem utfB_bytes {c : Int} (h : scalB c = true) : Bytes (utfB c) := by
  obtain ⟨h0, h1, hs⟩ := scal_in h
  intro x hx
  unfold utfB at hx
  split at hx
  · simp at hx; omega
  · split at hx
    · simp at hx; omega
    · split at hx
      · simp at hx; omega
      · simp at hx; omega
def Scals (l : List Int) : Prop := ∀ c ∈ l, scalB c = true
theorem enc_bytes {l : List Int} (h : Scals l) : Bytes (enc l) := by
  induction l with
  | nil => intro x hx; cases hx
  | cons c r ih =>
    intro x hx
    rw [enc_cons] at hx
    rcases List.mem_append.1 hx with hx | hx
    · exact utfB_bytes (h c (by simp)) x hx
    · exact ih (fun y hy => h y (by simp [hy])) x hx
theorem encode_loop (l : List Int) (hs : Scals l) (hlen : l.length ≤ 50000000000) (R : TV → List Ob → Prop) (hR : R (.tup [(false, [.fz (.sl 1 (ints .u8 (enc l)))]), (false, [.fz (.int .i64 0)])]) []) :
    ∀ (m i : Nat), l.length - i = m → i ≤ l.length → utf_Encode_L0 R (ints .i64 l) i (ints .u8 (enc (l.take i))) := by
  intro m
  induction m with
  | zero =>
    intro i hi hle
    refine utf_Encode_l0 ?_
    unfold utf_Encode_R0
    simp only [dec_t, dec_f, ints_len]
    refine ⟨fun a => absurd a (by omega), fun _ => ?_⟩
    rw [show i = l.length by omega, List.take_length]
    exact hR
  | succ m ih =>
    intro i hi hle
    refine utf_Encode_l0 ?_
    unfold utf_Encode_R0
    simp only [dec_t, dec_f, ints_len, Int.toNat_natCast]
    refine ⟨fun _ => ⟨by omega, ?_⟩, fun a => absurd a (by omega)⟩
    have hlt : i < l.length := by omega
    have hc : scalB (rd l i) = true := hs _ (by rw [rd_at l i hlt]; exact List.getElem_mem hlt)
    obtain ⟨h0, h1, _⟩ := scal_in hc
    refine ⟨rd l i, ?_, true, ?_, ?_⟩
    · simp [ints, some_rd hlt]
    · have := uScalar_ok (rd l i); rw [hc] at this; exact this
    · simp only [Bool.not_true, Bool.false_eq_true, false_implies, true_and, forall_const]
      rw [w32_in (by omega) (by omega), w64 (by omega) (by omega)]
      have hel := enc_len (l.take i)
      have htl : (l.take i).length ≤ l.length := by simp; omega
      refine ⟨_, append1_ok hc (enc (l.take i)) (by omega), ?_⟩
      have := ih (i + 1) (by omega) (by omega)
      have ht : l.take (i + 1) = l.take i ++ [rd l i] := by rw [List.take_add_one, some_rd hlt]; rfl
      rw [ht, enc_app, show enc [rd l i] = utfB (rd l i) by simp [enc]] at this
      exact this
theorem uEncode_ok (l : List Int) (hs : Scals l) (hlen : l.length ≤ 50000000000) : Fn Tryd.prog 62 [fzS .i64 l] [] (.tup [(false, [.fz (.sl 1 (ints .u8 (enc l)))]), (false, [.fz (.int .i64 0)])]) [] := by
  refine utf_Encode_fn _ ?_
  obtain ⟨R, hR, hRe⟩ := exR (.tup [(false, [.fz (.sl 1 (ints .u8 (enc l)))]), (false, [.fz (.int .i64 0)])]); rw [hRe]; clear hRe
  unfold utf_Encode_H
  exact encode_loop l hs hlen R hR _ 0 rfl (Nat.zero_le _)
end Go.Proofs.YtejefchehdifhaaDoor.Ev
end
section
set_option linter.unusedVariables false
set_option linter.unusedSimpArgs false
namespace Go.Proofs.YtejefchehdifhaaDoor.Ev
open Go
def pkL (l : List Int) (i : Nat) : Int := if i < l.length then rd l i else -1
theorem pkL_drop (t : List Int) (p i : Nat) : pkL (t.drop p) i = pkL t (p + i) := by
  unfold pkL
  rw [rd_dropN, List.length_drop]
  by_cases h : p + i < t.length
  · rw [if_pos (by omega), if_pos h]
  · rw [if_neg (by omega), if_neg h]
def untilN : List Int → Nat
  | [] => 0
  | c :: r => if endsB c = true then 0 else untilN r + 1
theorem untilN_le : ∀ l : List Int, untilN l ≤ l.length
  | [] => Nat.le_refl _
  | c :: r => by
    have := untilN_le r
    unfold untilN
    split <;> simp <;> omega
def blC : Bool → List Int → Nat
  | _, [] => 0
  | true, c :: r => if c = 10 then blC false r + 1 else blC true r + 1
  | false, c :: r => if blankB c = true then blC false r + 1 else if c = 59 then blC true r + 1 else 0
theorem blC_le : ∀ (b : Bool) (l : List Int), blC b l ≤ l.length
  | b, [] => by cases b <;> exact Nat.le_refl _
  | true, c :: r => by
    have h1 := blC_le false r
    have h2 := blC_le true r
    unfold blC
    split <;> simp <;> omega
  | false, c :: r => by
    have h1 := blC_le false r
    have h2 := blC_le true r
    unfold blC
    split
    · simp; omega
    · split <;> simp; omega
def semN : Nat → List Int → Nat
  | 0, _ => 0
  | _ + 1, [] => 0
  | n + 1, c :: r => if c = 59 then 0 else semN n r + 1
theorem semN_le : ∀ (n : Nat) (l : List Int), semN n l ≤ n ∧ semN n l ≤ l.length
  | 0, l => ⟨Nat.le_refl _, Nat.zero_le _⟩
  | n + 1, [] => ⟨Nat.zero_le _, Nat.le_refl _⟩
  | n + 1, c :: r => by
    have := semN_le n r
    unfold semN
    split <;> simp <;> omega
def hexD (c : Int) : Int := if 48 ≤ c ∧ c ≤ 57 then c - 48 else if 97 ≤ c ∧ c ≤ 102 then c - 87 else if 65 ≤ c ∧ c ≤ 70 then c - 55 else -1
def hexR : List Int → Int → Int
  | [], n => if scalB n = true then n else -1
  | c :: r, n => if hexD c < 0 then -1 else hexR r (n * 16 + hexD c)
def hexV (T : List Int) : Int := if 1 ≤ T.length ∧ T.length ≤ 6 then hexR T 0 else -1
def namedV (T : List Int) : Int :=
  if T = [115, 112, 97, 99, 101] then 32 else if T = [110, 101, 119, 108, 105, 110, 101] then 10 else if T = [116, 97, 98] then 9 else if T = [114, 101, 116, 117, 114, 110] then 13
  else if T = [110, 117, 108, 108] then 0 else if T = [100, 101, 108, 101, 116, 101] then 127
  else if (chars T).2 = -1 ∧ (chars T).1.length = 1 then rd (chars T).1 0
  else if 2 ≤ T.length ∧ rd T 0 = 120 then hexV (T.drop 1) else -1
theorem hexR_scal : ∀ (l : List Int) (n : Int), hexR l n = -1 ∨ scalB (hexR l n) = true
  | [], n => by
    unfold hexR
    split
    · exact .inr ‹_›
    · exact .inl rfl
  | c :: r, n => by
    unfold hexR
    split
    · exact .inl rfl
    · exact hexR_scal r _
theorem hexV_scal (T : List Int) : hexV T = -1 ∨ scalB (hexV T) = true := by
  unfold hexV
  split
  · exact hexR_scal _ _
  · exact .inl rfl
end Go.Proofs.YtejefchehdifhaaDoor.Ev
end
section
set_option linter.unusedVariables false
set_option linter.unusedSimpArgs false
namespace Go.Proofs.YtejefchehdifhaaDoor.Ev
open Go
theorem semN_spec : ∀ (n : Nat) (l : List Int), (∀ j, j < semN n l → rd l j ≠ 59) ∧ (semN n l = n ∨ semN n l = l.length ∨ rd l (semN n l) = 59)
  | 0, l => ⟨fun j hj => absurd hj (Nat.not_lt_zero j), .inl rfl⟩
  | n + 1, [] => ⟨fun j hj => absurd hj (Nat.not_lt_zero j), .inr (.inl rfl)⟩
  | n + 1, c :: r => by
    obtain ⟨h1, h2⟩ := semN_spec n r
    have key : semN (n + 1) (c :: r) = if c = 59 then 0 else semN n r + 1 := rfl
    rw [key]
    by_cases hc : c = 59
    · rw [if_pos hc]
      exact ⟨fun j hj => absurd hj (Nat.not_lt_zero j), .inr (.inr hc)⟩
    · rw [if_neg hc]
      refine ⟨fun j hj => ?_, ?_⟩
      · cases j with
        | zero => exact hc
        | succ j => exact h1 j (by omega)
      · rcases h2 with h2 | h2 | h2
        · exact .inl (by omega)
        · exact .inr (.inl (by simp; omega))
        · exact .inr (.inr h2)
def escV (r : List Int) : Int × Nat :=
  let c := pkL r 0
  if c = 110 then (10, 1) else if c = 116 then (9, 1) else if c = 114 then (13, 1) else if c = 92 then (92, 1) else if c = 34 then (34, 1)
  else if c = 120 then (if pkL (r.drop 1) (semN 7 (r.drop 1)) = 59 then (hexV (enc ((r.drop 1).take (semN 7 (r.drop 1)))), semN 7 (r.drop 1) + 2) else (-1, 0)) else (-1, 0)
def strF : Nat → List Int → List Int → Nat → Option (List Int × Nat)
  | 0, _, _, _ => none
  | _ + 1, [], _, _ => none
  | f + 1, c :: r, acc, k => if c = 34 then some (acc, k + 1) else if c ≠ 92 then strF f r (acc ++ [c]) (k + 1) else if (escV r).1 < 0 then none else strF f (r.drop (escV r).2) (acc ++ [(escV r).1]) (k + 1 + (escV r).2)
theorem Scals.drop {l : List Int} (h : Scals l) (n : Nat) : Scals (l.drop n) := fun c hc => h c (List.mem_of_mem_drop hc)
theorem Scals.take {l : List Int} (h : Scals l) (n : Nat) : Scals (l.take n) := fun c hc => h c (List.mem_of_mem_take hc)
theorem Scals.rd {l : List Int} (h : Scals l) {i : Nat} (hi : i < l.length) : scalB (rd l i) = true := h _ (by rw [rd_at l i hi]; exact List.getElem_mem hi)
end Go.Proofs.YtejefchehdifhaaDoor.Ev
end
section
set_option linter.unusedVariables false
set_option maxRecDepth 100000
namespace Go.Proofs.YtejefchehdifhaaDoor.Ev
open Go
def strconv_ParseUint_lv : List Nat → Keep := lvOf []
def strconv_ParseUint_H (R : TV → List Ob → Prop) (s : ByteArray) : Prop :=
  (∃ n1 : Int, (∃ b2 : Bool, ((Fn Tryd.prog 82 [(TV.one (AV.fz (FV.str s))), (TV.one (AV.fz (FV.int .i64 16))), (TV.one (AV.fz (FV.int .i64 32)))] [] (TV.tup [(false, [(AV.fz (FV.int .u64 n1))]), (false, [(AV.fz (FV.ifc b2))])]) []) ∧ (ifB (Bool.not (Bool.not b2)) (∃ b3 : Bool, ((Fn Tryd.prog 58 [(TV.one (AV.fz (FV.str (ByteArray.mk #[80, 97, 114, 115, 101, 85, 105, 110, 116])))), (TV.one (AV.fz (FV.str s))), (TV.one (AV.fz (FV.int .i64 16))), (TV.one (AV.fz (FV.int .i64 32))), (TV.one (AV.fz (FV.ifc b2)))] [] (TV.one (AV.fz (FV.ifc b3))) []) ∧ (R (TV.tup [(false, [(AV.fz (FV.int .u64 n1))]), (false, [(AV.fz (FV.ifc b3))])]) []))) (R (TV.tup [(false, [(AV.fz (FV.int .u64 n1))]), (false, [(AV.fz (FV.ifc false))])]) [])))))
theorem strconv_ParseUint_fn (s : ByteArray) {r : TV} {h : List Ob} (H : strconv_ParseUint_H (fun r' h' => r' = r ∧ h' = h) s) : Fn Tryd.prog 78 [(TV.one (AV.fz (FV.str s))), (TV.one (AV.fz (FV.int .i64 16))), (TV.one (AV.fz (FV.int .i64 32)))] [] r h :=
  Fn.by_tr (M := (modeC [] [])) (lv := strconv_ParseUint_lv) (own := none) (F := Tryd.f78) (by kernel_rfl) (by kernel_rfl) (by first | decide | simp) (fun _ _ h => h) (by kernel_rfl) H
def internal_strconv_ParseUint_lv : List Nat → Keep := lvOf [([0, 1, 0, 1, 1, 1, 1, 1, 1, 1, 1, 1, 1, 1], ⟨4436777100798802905238461234946, 0, [], false, false⟩)]
def internal_strconv_ParseUint_S0 (s : ByteArray) (n13 : Int) (i : Int) : St := (St.mk [TV.und, (TV.one (AV.fz (FV.int .i64 16))), TV.und, TV.und, TV.und, TV.und, TV.und, TV.und, (TV.one (AV.fz (FV.bool ((16 : Int) == 0)))), (TV.one (AV.fz (FV.str s))), (TV.one (AV.fz (FV.int .u64 1152921504606846976))), (TV.one (AV.fz (FV.int .u64 (IntKind.wrap .u64 ((IntKind.wrap .u64 (1 * (2 ^ (min (Int.toNat (IntKind.wrap .u64 32)) 64)))) - 1))))), (TV.one (AV.fz (FV.bool false))), (TV.one (AV.fz (FV.int .u64 n13))), TV.und, TV.und, TV.und, TV.und, TV.und, TV.und, TV.und, TV.und, TV.und, TV.und, TV.und, TV.und, TV.und, TV.und, TV.und, TV.und, TV.und, TV.und, TV.und, TV.und, TV.und, TV.und, TV.und, TV.und, TV.und, TV.und, TV.und, TV.und, TV.und, TV.und, TV.und, TV.und, TV.und, TV.und, TV.und, TV.und, TV.und, TV.und, TV.und, TV.und, TV.und, TV.und, TV.und, TV.und, TV.und, TV.und, TV.und, TV.und, TV.und, TV.und, TV.und, TV.und, TV.und, TV.und, TV.und, TV.und, TV.und, TV.und, TV.und, TV.und, TV.und, TV.und, TV.und, TV.und, TV.und, TV.und, TV.und, TV.und, TV.und, TV.und, TV.und, TV.und, TV.und, TV.und, TV.und, TV.und, TV.und, TV.und, TV.und, TV.und, TV.und, TV.und, TV.und, TV.und, TV.und, (TV.one (AV.fz (FV.sl 1 (List.map (fun b7 => [(FV.int .u8 (((UInt8.toNat b7) : Nat) : Int))]) (Array.toList (ByteArray.data s)))))), (TV.one (AV.fz (FV.int .i64 (((List.length (List.map (fun b8 => [(FV.int .u8 (((UInt8.toNat b8) : Nat) : Int))]) (Array.toList (ByteArray.data s)))) : Nat) : Int)))), (TV.one (AV.fz (FV.int .i64 i))), TV.und, TV.und, TV.und, TV.und, TV.und, TV.und, TV.und, TV.und, TV.und, TV.und, TV.und, TV.und, TV.und, TV.und, TV.und, TV.und, TV.und, TV.und, TV.und, TV.und, TV.und, TV.und, TV.und, TV.und, TV.und, TV.und, TV.und, TV.und, TV.und, TV.und, TV.und, TV.und, TV.und, TV.und, TV.und, TV.und, TV.und, TV.und, TV.und, TV.und, TV.und, TV.und, TV.und, TV.und, TV.und, TV.und, TV.und, TV.und, TV.und, TV.und, TV.und, TV.und, TV.und, TV.und, TV.und, TV.und, TV.und, TV.und, TV.und, TV.und, TV.und, TV.und, TV.und, TV.und, TV.und, TV.und, TV.und, TV.und, TV.und, TV.und] [])
def internal_strconv_ParseUint_L0 (R : TV → List Ob → Prop) (s : ByteArray) (n13 : Int) (i : Int) : Prop := LoopAt Tryd.prog (modeC [] []) internal_strconv_ParseUint_lv Tryd.f82 none R [1, 1, 1, 1, 1, 1, 1, 1, 1, 1, 1, 0, 1, 0] (internal_strconv_ParseUint_S0 s n13 i)
def internal_strconv_ParseUint_R0 (R : TV → List Ob → Prop) (s : ByteArray) (n13 : Int) (i : Int) : Prop :=
  (ifB (decide (i < (((List.length (List.map (fun b6 => [(FV.int .u8 (((UInt8.toNat b6) : Nat) : Int))]) (Array.toList (ByteArray.data s)))) : Nat) : Int))) (((0 : Int) ≤ i) ∧ (∃ n27 : Int, ((((List.map (fun b5 => [(FV.int .u8 (((UInt8.toNat b5) : Nat) : Int))]) (Array.toList (ByteArray.data s))))[(Int.toNat i)]? = (some [(FV.int .u8 n27)])) ∧ (ifB (n27 == 95) (ifB (decide ((48 : Int) ≤ n27)) (ifB (decide (n27 ≤ 57)) (ifB (decide ((IntKind.wrap .u8 16) ≤ (IntKind.wrap .u8 (n27 - 48)))) (R (TV.tup [(false, [(AV.fz (FV.int .u64 0))]), (false, [(AV.fz (FV.ifv 108 false [(FV.int .i64 2)]))])]) []) (ifB (decide ((1152921504606846976 : Int) ≤ n13)) (R (TV.tup [(false, [(AV.fz (FV.int .u64 (IntKind.wrap .u64 ((IntKind.wrap .u64 (1 * (2 ^ (min (Int.toNat (IntKind.wrap .u64 32)) 64)))) - 1))))]), (false, [(AV.fz (FV.ifv 108 false [(FV.int .i64 1)]))])]) []) (ifB (decide ((IntKind.wrap .u64 ((IntKind.wrap .u64 (n13 * (IntKind.wrap .u64 16))) + (IntKind.wrap .u64 (IntKind.wrap .u8 (n27 - 48))))) < (IntKind.wrap .u64 (n13 * (IntKind.wrap .u64 16))))) (R (TV.tup [(false, [(AV.fz (FV.int .u64 (IntKind.wrap .u64 ((IntKind.wrap .u64 (1 * (2 ^ (min (Int.toNat (IntKind.wrap .u64 32)) 64)))) - 1))))]), (false, [(AV.fz (FV.ifv 108 false [(FV.int .i64 1)]))])]) []) (ifB (decide ((IntKind.wrap .u64 ((IntKind.wrap .u64 (1 * (2 ^ (min (Int.toNat (IntKind.wrap .u64 32)) 64)))) - 1)) < (IntKind.wrap .u64 ((IntKind.wrap .u64 (n13 * (IntKind.wrap .u64 16))) + (IntKind.wrap .u64 (IntKind.wrap .u8 (n27 - 48))))))) (R (TV.tup [(false, [(AV.fz (FV.int .u64 (IntKind.wrap .u64 ((IntKind.wrap .u64 (1 * (2 ^ (min (Int.toNat (IntKind.wrap .u64 32)) 64)))) - 1))))]), (false, [(AV.fz (FV.ifv 108 false [(FV.int .i64 1)]))])]) []) (internal_strconv_ParseUint_L0 R s (IntKind.wrap .u64 ((IntKind.wrap .u64 (n13 * (IntKind.wrap .u64 16))) + (IntKind.wrap .u64 (IntKind.wrap .u8 (n27 - 48))))) (IntKind.wrap .i64 (i + 1))))))) (∃ n28 : Int, ((Fn Tryd.prog 90 [(TV.one (AV.fz (FV.int .u8 n27)))] [] (TV.one (AV.fz (FV.int .u8 n28))) []) ∧ (ifB (decide ((97 : Int) ≤ n28)) (∃ n29 : Int, ((Fn Tryd.prog 90 [(TV.one (AV.fz (FV.int .u8 n27)))] [] (TV.one (AV.fz (FV.int .u8 n29))) []) ∧ (ifB (decide (n29 ≤ 122)) (∃ n30 : Int, ((Fn Tryd.prog 90 [(TV.one (AV.fz (FV.int .u8 n27)))] [] (TV.one (AV.fz (FV.int .u8 n30))) []) ∧ (ifB (decide ((IntKind.wrap .u8 16) ≤ (IntKind.wrap .u8 ((IntKind.wrap .u8 (n30 - 97)) + 10)))) (R (TV.tup [(false, [(AV.fz (FV.int .u64 0))]), (false, [(AV.fz (FV.ifv 108 false [(FV.int .i64 2)]))])]) []) (ifB (decide ((1152921504606846976 : Int) ≤ n13)) (R (TV.tup [(false, [(AV.fz (FV.int .u64 (IntKind.wrap .u64 ((IntKind.wrap .u64 (1 * (2 ^ (min (Int.toNat (IntKind.wrap .u64 32)) 64)))) - 1))))]), (false, [(AV.fz (FV.ifv 108 false [(FV.int .i64 1)]))])]) []) (ifB (decide ((IntKind.wrap .u64 ((IntKind.wrap .u64 (n13 * (IntKind.wrap .u64 16))) + (IntKind.wrap .u64 (IntKind.wrap .u8 ((IntKind.wrap .u8 (n30 - 97)) + 10))))) < (IntKind.wrap .u64 (n13 * (IntKind.wrap .u64 16))))) (R (TV.tup [(false, [(AV.fz (FV.int .u64 (IntKind.wrap .u64 ((IntKind.wrap .u64 (1 * (2 ^ (min (Int.toNat (IntKind.wrap .u64 32)) 64)))) - 1))))]), (false, [(AV.fz (FV.ifv 108 false [(FV.int .i64 1)]))])]) []) (ifB (decide ((IntKind.wrap .u64 ((IntKind.wrap .u64 (1 * (2 ^ (min (Int.toNat (IntKind.wrap .u64 32)) 64)))) - 1)) < (IntKind.wrap .u64 ((IntKind.wrap .u64 (n13 * (IntKind.wrap .u64 16))) + (IntKind.wrap .u64 (IntKind.wrap .u8 ((IntKind.wrap .u8 (n30 - 97)) + 10))))))) (R (TV.tup [(false, [(AV.fz (FV.int .u64 (IntKind.wrap .u64 ((IntKind.wrap .u64 (1 * (2 ^ (min (Int.toNat (IntKind.wrap .u64 32)) 64)))) - 1))))]), (false, [(AV.fz (FV.ifv 108 false [(FV.int .i64 1)]))])]) []) (internal_strconv_ParseUint_L0 R s (IntKind.wrap .u64 ((IntKind.wrap .u64 (n13 * (IntKind.wrap .u64 16))) + (IntKind.wrap .u64 (IntKind.wrap .u8 ((IntKind.wrap .u8 (n30 - 97)) + 10))))) (IntKind.wrap .i64 (i + 1))))))))) (R (TV.tup [(false, [(AV.fz (FV.int .u64 0))]), (false, [(AV.fz (FV.ifv 108 false [(FV.int .i64 2)]))])]) [])))) (R (TV.tup [(false, [(AV.fz (FV.int .u64 0))]), (false, [(AV.fz (FV.ifv 108 false [(FV.int .i64 2)]))])]) []))))) (∃ n31 : Int, ((Fn Tryd.prog 90 [(TV.one (AV.fz (FV.int .u8 n27)))] [] (TV.one (AV.fz (FV.int .u8 n31))) []) ∧ (ifB (decide ((97 : Int) ≤ n31)) (∃ n32 : Int, ((Fn Tryd.prog 90 [(TV.one (AV.fz (FV.int .u8 n27)))] [] (TV.one (AV.fz (FV.int .u8 n32))) []) ∧ (ifB (decide (n32 ≤ 122)) (∃ n33 : Int, ((Fn Tryd.prog 90 [(TV.one (AV.fz (FV.int .u8 n27)))] [] (TV.one (AV.fz (FV.int .u8 n33))) []) ∧ (ifB (decide ((IntKind.wrap .u8 16) ≤ (IntKind.wrap .u8 ((IntKind.wrap .u8 (n33 - 97)) + 10)))) (R (TV.tup [(false, [(AV.fz (FV.int .u64 0))]), (false, [(AV.fz (FV.ifv 108 false [(FV.int .i64 2)]))])]) []) (ifB (decide ((1152921504606846976 : Int) ≤ n13)) (R (TV.tup [(false, [(AV.fz (FV.int .u64 (IntKind.wrap .u64 ((IntKind.wrap .u64 (1 * (2 ^ (min (Int.toNat (IntKind.wrap .u64 32)) 64)))) - 1))))]), (false, [(AV.fz (FV.ifv 108 false [(FV.int .i64 1)]))])]) []) (ifB (decide ((IntKind.wrap .u64 ((IntKind.wrap .u64 (n13 * (IntKind.wrap .u64 16))) + (IntKind.wrap .u64 (IntKind.wrap .u8 ((IntKind.wrap .u8 (n33 - 97)) + 10))))) < (IntKind.wrap .u64 (n13 * (IntKind.wrap .u64 16))))) (R (TV.tup [(false, [(AV.fz (FV.int .u64 (IntKind.wrap .u64 ((IntKind.wrap .u64 (1 * (2 ^ (min (Int.toNat (IntKind.wrap .u64 32)) 64)))) - 1))))]), (false, [(AV.fz (FV.ifv 108 false [(FV.int .i64 1)]))])]) []) (ifB (decide ((IntKind.wrap .u64 ((IntKind.wrap .u64 (1 * (2 ^ (min (Int.toNat (IntKind.wrap .u64 32)) 64)))) - 1)) < (IntKind.wrap .u64 ((IntKind.wrap .u64 (n13 * (IntKind.wrap .u64 16))) + (IntKind.wrap .u64 (IntKind.wrap .u8 ((IntKind.wrap .u8 (n33 - 97)) + 10))))))) (R (TV.tup [(false, [(AV.fz (FV.int .u64 (IntKind.wrap .u64 ((IntKind.wrap .u64 (1 * (2 ^ (min (Int.toNat (IntKind.wrap .u64 32)) 64)))) - 1))))]), (false, [(AV.fz (FV.ifv 108 false [(FV.int .i64 1)]))])]) []) (internal_strconv_ParseUint_L0 R s (IntKind.wrap .u64 ((IntKind.wrap .u64 (n13 * (IntKind.wrap .u64 16))) + (IntKind.wrap .u64 (IntKind.wrap .u8 ((IntKind.wrap .u8 (n33 - 97)) + 10))))) (IntKind.wrap .i64 (i + 1))))))))) (R (TV.tup [(false, [(AV.fz (FV.int .u64 0))]), (false, [(AV.fz (FV.ifv 108 false [(FV.int .i64 2)]))])]) [])))) (R (TV.tup [(false, [(AV.fz (FV.int .u64 0))]), (false, [(AV.fz (FV.ifv 108 false [(FV.int .i64 2)]))])]) []))))) (ifB (decide ((48 : Int) ≤ n27)) (ifB (decide (n27 ≤ 57)) (ifB (decide ((IntKind.wrap .u8 16) ≤ (IntKind.wrap .u8 (n27 - 48)))) (R (TV.tup [(false, [(AV.fz (FV.int .u64 0))]), (false, [(AV.fz (FV.ifv 108 false [(FV.int .i64 2)]))])]) []) (ifB (decide ((1152921504606846976 : Int) ≤ n13)) (R (TV.tup [(false, [(AV.fz (FV.int .u64 (IntKind.wrap .u64 ((IntKind.wrap .u64 (1 * (2 ^ (min (Int.toNat (IntKind.wrap .u64 32)) 64)))) - 1))))]), (false, [(AV.fz (FV.ifv 108 false [(FV.int .i64 1)]))])]) []) (ifB (decide ((IntKind.wrap .u64 ((IntKind.wrap .u64 (n13 * (IntKind.wrap .u64 16))) + (IntKind.wrap .u64 (IntKind.wrap .u8 (n27 - 48))))) < (IntKind.wrap .u64 (n13 * (IntKind.wrap .u64 16))))) (R (TV.tup [(false, [(AV.fz (FV.int .u64 (IntKind.wrap .u64 ((IntKind.wrap .u64 (1 * (2 ^ (min (Int.toNat (IntKind.wrap .u64 32)) 64)))) - 1))))]), (false, [(AV.fz (FV.ifv 108 false [(FV.int .i64 1)]))])]) []) (ifB (decide ((IntKind.wrap .u64 ((IntKind.wrap .u64 (1 * (2 ^ (min (Int.toNat (IntKind.wrap .u64 32)) 64)))) - 1)) < (IntKind.wrap .u64 ((IntKind.wrap .u64 (n13 * (IntKind.wrap .u64 16))) + (IntKind.wrap .u64 (IntKind.wrap .u8 (n27 - 48))))))) (R (TV.tup [(false, [(AV.fz (FV.int .u64 (IntKind.wrap .u64 ((IntKind.wrap .u64 (1 * (2 ^ (min (Int.toNat (IntKind.wrap .u64 32)) 64)))) - 1))))]), (false, [(AV.fz (FV.ifv 108 false [(FV.int .i64 1)]))])]) []) (internal_strconv_ParseUint_L0 R s (IntKind.wrap .u64 ((IntKind.wrap .u64 (n13 * (IntKind.wrap .u64 16))) + (IntKind.wrap .u64 (IntKind.wrap .u8 (n27 - 48))))) (IntKind.wrap .i64 (i + 1))))))) (∃ n34 : Int, ((Fn Tryd.prog 90 [(TV.one (AV.fz (FV.int .u8 n27)))] [] (TV.one (AV.fz (FV.int .u8 n34))) []) ∧ (ifB (decide ((97 : Int) ≤ n34)) (∃ n35 : Int, ((Fn Tryd.prog 90 [(TV.one (AV.fz (FV.int .u8 n27)))] [] (TV.one (AV.fz (FV.int .u8 n35))) []) ∧ (ifB (decide (n35 ≤ 122)) (∃ n36 : Int, ((Fn Tryd.prog 90 [(TV.one (AV.fz (FV.int .u8 n27)))] [] (TV.one (AV.fz (FV.int .u8 n36))) []) ∧ (ifB (decide ((IntKind.wrap .u8 16) ≤ (IntKind.wrap .u8 ((IntKind.wrap .u8 (n36 - 97)) + 10)))) (R (TV.tup [(false, [(AV.fz (FV.int .u64 0))]), (false, [(AV.fz (FV.ifv 108 false [(FV.int .i64 2)]))])]) []) (ifB (decide ((1152921504606846976 : Int) ≤ n13)) (R (TV.tup [(false, [(AV.fz (FV.int .u64 (IntKind.wrap .u64 ((IntKind.wrap .u64 (1 * (2 ^ (min (Int.toNat (IntKind.wrap .u64 32)) 64)))) - 1))))]), (false, [(AV.fz (FV.ifv 108 false [(FV.int .i64 1)]))])]) []) (ifB (decide ((IntKind.wrap .u64 ((IntKind.wrap .u64 (n13 * (IntKind.wrap .u64 16))) + (IntKind.wrap .u64 (IntKind.wrap .u8 ((IntKind.wrap .u8 (n36 - 97)) + 10))))) < (IntKind.wrap .u64 (n13 * (IntKind.wrap .u64 16))))) (R (TV.tup [(false, [(AV.fz (FV.int .u64 (IntKind.wrap .u64 ((IntKind.wrap .u64 (1 * (2 ^ (min (Int.toNat (IntKind.wrap .u64 32)) 64)))) - 1))))]), (false, [(AV.fz (FV.ifv 108 false [(FV.int .i64 1)]))])]) []) (ifB (decide ((IntKind.wrap .u64 ((IntKind.wrap .u64 (1 * (2 ^ (min (Int.toNat (IntKind.wrap .u64 32)) 64)))) - 1)) < (IntKind.wrap .u64 ((IntKind.wrap .u64 (n13 * (IntKind.wrap .u64 16))) + (IntKind.wrap .u64 (IntKind.wrap .u8 ((IntKind.wrap .u8 (n36 - 97)) + 10))))))) (R (TV.tup [(false, [(AV.fz (FV.int .u64 (IntKind.wrap .u64 ((IntKind.wrap .u64 (1 * (2 ^ (min (Int.toNat (IntKind.wrap .u64 32)) 64)))) - 1))))]), (false, [(AV.fz (FV.ifv 108 false [(FV.int .i64 1)]))])]) []) (internal_strconv_ParseUint_L0 R s (IntKind.wrap .u64 ((IntKind.wrap .u64 (n13 * (IntKind.wrap .u64 16))) + (IntKind.wrap .u64 (IntKind.wrap .u8 ((IntKind.wrap .u8 (n36 - 97)) + 10))))) (IntKind.wrap .i64 (i + 1))))))))) (R (TV.tup [(false, [(AV.fz (FV.int .u64 0))]), (false, [(AV.fz (FV.ifv 108 false [(FV.int .i64 2)]))])]) [])))) (R (TV.tup [(false, [(AV.fz (FV.int .u64 0))]), (false, [(AV.fz (FV.ifv 108 false [(FV.int .i64 2)]))])]) []))))) (∃ n37 : Int, ((Fn Tryd.prog 90 [(TV.one (AV.fz (FV.int .u8 n27)))] [] (TV.one (AV.fz (FV.int .u8 n37))) []) ∧ (ifB (decide ((97 : Int) ≤ n37)) (∃ n38 : Int, ((Fn Tryd.prog 90 [(TV.one (AV.fz (FV.int .u8 n27)))] [] (TV.one (AV.fz (FV.int .u8 n38))) []) ∧ (ifB (decide (n38 ≤ 122)) (∃ n39 : Int, ((Fn Tryd.prog 90 [(TV.one (AV.fz (FV.int .u8 n27)))] [] (TV.one (AV.fz (FV.int .u8 n39))) []) ∧ (ifB (decide ((IntKind.wrap .u8 16) ≤ (IntKind.wrap .u8 ((IntKind.wrap .u8 (n39 - 97)) + 10)))) (R (TV.tup [(false, [(AV.fz (FV.int .u64 0))]), (false, [(AV.fz (FV.ifv 108 false [(FV.int .i64 2)]))])]) []) (ifB (decide ((1152921504606846976 : Int) ≤ n13)) (R (TV.tup [(false, [(AV.fz (FV.int .u64 (IntKind.wrap .u64 ((IntKind.wrap .u64 (1 * (2 ^ (min (Int.toNat (IntKind.wrap .u64 32)) 64)))) - 1))))]), (false, [(AV.fz (FV.ifv 108 false [(FV.int .i64 1)]))])]) []) (ifB (decide ((IntKind.wrap .u64 ((IntKind.wrap .u64 (n13 * (IntKind.wrap .u64 16))) + (IntKind.wrap .u64 (IntKind.wrap .u8 ((IntKind.wrap .u8 (n39 - 97)) + 10))))) < (IntKind.wrap .u64 (n13 * (IntKind.wrap .u64 16))))) (R (TV.tup [(false, [(AV.fz (FV.int .u64 (IntKind.wrap .u64 ((IntKind.wrap .u64 (1 * (2 ^ (min (Int.toNat (IntKind.wrap .u64 32)) 64)))) - 1))))]), (false, [(AV.fz (FV.ifv 108 false [(FV.int .i64 1)]))])]) []) (ifB (decide ((IntKind.wrap .u64 ((IntKind.wrap .u64 (1 * (2 ^ (min (Int.toNat (IntKind.wrap .u64 32)) 64)))) - 1)) < (IntKind.wrap .u64 ((IntKind.wrap .u64 (n13 * (IntKind.wrap .u64 16))) + (IntKind.wrap .u64 (IntKind.wrap .u8 ((IntKind.wrap .u8 (n39 - 97)) + 10))))))) (R (TV.tup [(false, [(AV.fz (FV.int .u64 (IntKind.wrap .u64 ((IntKind.wrap .u64 (1 * (2 ^ (min (Int.toNat (IntKind.wrap .u64 32)) 64)))) - 1))))]), (false, [(AV.fz (FV.ifv 108 false [(FV.int .i64 1)]))])]) []) (internal_strconv_ParseUint_L0 R s (IntKind.wrap .u64 ((IntKind.wrap .u64 (n13 * (IntKind.wrap .u64 16))) + (IntKind.wrap .u64 (IntKind.wrap .u8 ((IntKind.wrap .u8 (n39 - 97)) + 10))))) (IntKind.wrap .i64 (i + 1))))))))) (R (TV.tup [(false, [(AV.fz (FV.int .u64 0))]), (false, [(AV.fz (FV.ifv 108 false [(FV.int .i64 2)]))])]) [])))) (R (TV.tup [(false, [(AV.fz (FV.int .u64 0))]), (false, [(AV.fz (FV.ifv 108 false [(FV.int .i64 2)]))])]) []))))))))) (R (TV.tup [(false, [(AV.fz (FV.int .u64 n13))]), (false, [(AV.fz (FV.ifc false))])]) []))
theorem internal_strconv_ParseUint_l0 {R : TV → List Ob → Prop} {s : ByteArray} {n13 : Int} {i : Int} (h : internal_strconv_ParseUint_R0 R s n13 i) : internal_strconv_ParseUint_L0 R s n13 i :=
  LoopAt.by_tr (by kernel_rfl) (by kernel_rfl) h
def internal_strconv_ParseUint_H (R : TV → List Ob → Prop) (s : ByteArray) : Prop :=
  (ifB ((ByteArray.toList s) == (ByteArray.toList (ByteArray.mk #[]))) (R (TV.tup [(false, [(AV.fz (FV.int .u64 0))]), (false, [(AV.fz (FV.ifv 108 false [(FV.int .i64 2)]))])]) []) (((0 : Int) ≤ (IntKind.wrap .u64 32)) ∧ (internal_strconv_ParseUint_L0 R s 0 0)))
theorem internal_strconv_ParseUint_fn (s : ByteArray) {r : TV} {h : List Ob} (H : internal_strconv_ParseUint_H (fun r' h' => r' = r ∧ h' = h) s) : Fn Tryd.prog 82 [(TV.one (AV.fz (FV.str s))), (TV.one (AV.fz (FV.int .i64 16))), (TV.one (AV.fz (FV.int .i64 32)))] [] r h :=
  Fn.by_tr (M := (modeC [] [])) (lv := internal_strconv_ParseUint_lv) (own := none) (F := Tryd.f82) (by kernel_rfl) (by kernel_rfl) (by first | decide | simp) (fun _ _ h => h) (by kernel_rfl) H
end Go.Proofs.YtejefchehdifhaaDoor.Ev
end
section
set_option linter.unusedVariables false
set_option linter.unusedSimpArgs false
namespace Go.Proofs.YtejefchehdifhaaDoor.Ev
open Go
def hexA : List Int → Int → Int
  | [], n => n
  | c :: r, n => hexA r (n * 16 + hexD c)
def hexOk (l : List Int) : Bool := l.all fun c => decide (0 ≤ hexD c)
theorem hexR_eq : ∀ (l : List Int) (n : Int), hexR l n = if hexOk l = true then (if scalB (hexA l n) = true then hexA l n else -1) else -1
  | [], n => rfl
  | c :: r, n => by
    have ih := hexR_eq r (n * 16 + hexD c)
    unfold hexR hexA
    by_cases h : hexD c < 0
    · rw [if_pos h, if_neg]
      unfold hexOk
      simp
      omega
    · rw [if_neg h, ih]
      have : hexOk (c :: r) = hexOk r := by
        unfold hexOk
        simp
        omega
      rw [this]
theorem hexD_lt (c : Int) : hexD c < 16 := by
  unfold hexD
  repeat' split
  all_goals omega
theorem hexA_bound : ∀ (l : List Int) (n B : Int), hexOk l = true → 0 ≤ n → n < B → 0 ≤ hexA l n ∧ hexA l n < B * 16 ^ l.length
  | [], n, B, h, h0, h1 => by simp [hexA, h0, h1]
  | c :: r, n, B, h, h0, h1 => by
    unfold hexOk at h
    simp only [List.all_cons, Bool.and_eq_true, decide_eq_true_eq] at h
    have := hexD_lt c
    have ih := hexA_bound r (n * 16 + hexD c) (B * 16) h.2 (by omega) (by omega)
    unfold hexA
    rw [List.length_cons, Int.pow_succ, Int.mul_comm (16 ^ r.length) 16, ← Int.mul_assoc]
    exact ih
theorem hex_tab : ∀ n : Fin 256, ([48, 49, 50, 51, 52, 53, 54, 55, 56, 57, 97, 98, 99, 100, 101, 102, 65, 66, 67, 68, 69, 70] : List UInt8).contains (UInt8.ofNat n.val) = decide (0 ≤ hexD (n.val : Int)) := by decide +kernel
theorem all_hex {X : List Int} (hX : Bytes X) : (X.map fun n => UInt8.ofNat n.toNat).all (([48, 49, 50, 51, 52, 53, 54, 55, 56, 57, 97, 98, 99, 100, 101, 102, 65, 66, 67, 68, 69, 70] : List UInt8).contains ·) = hexOk X := by
  unfold hexOk
  rw [Bool.eq_iff_iff, List.all_map, List.all_eq_true, List.all_eq_true]
  refine forall_congr' fun x => ⟨fun h hx => ?_, fun h hx => ?_⟩
  all_goals
    have h1 := h hx
    have h2 := hX x hx
    have h3 := hex_tab ⟨x.toNat, by omega⟩
    simp only at h3
    rw [show ((x.toNat : Nat) : Int) = x by omega] at h3
    simp only [Function.comp_apply] at h1 ⊢
  · rw [← h3]; exact h1
  · rw [h3]; exact h1
theorem trim_hex {X : List Int} (hX : Bytes X) : ((ByteArray.toList ⟨(Lib.trimS (bytesOf X).data.toList (ByteArray.mk #[48, 49, 50, 51, 52, 53, 54, 55, 56, 57, 97, 98, 99, 100, 101, 102, 65, 66, 67, 68, 69, 70]).data.toList).toArray⟩) == ByteArray.toList (ByteArray.mk #[])) = hexOk X := by
  rw [ByteArray.toList_eq, ByteArray.toList_eq, ← all_hex hX, data_of]
  generalize X.map (fun n => UInt8.ofNat n.toNat) = l
  rw [Bool.eq_iff_iff, ← trim_nil, beq_iff_eq]
  rfl
def lowV (c : Int) : Int := IntKind.wrap .u8 (((BitVec.toNat ((BitVec.ofInt 8 c) ||| (BitVec.ofInt 8 32))) : Nat) : Int)
theorem low_tab : ∀ n : Fin 256, 0 ≤ hexD (n.val : Int) → ¬ (48 ≤ (n.val : Int) ∧ (n.val : Int) ≤ 57) → lowV (n.val : Int) = hexD (n.val : Int) + 87 := by decide +kernel
theorem lower_ok (c : Int) : Fn Tryd.prog 90 [fzI .u8 c] [] (fzI .u8 (lowV c)) [] := by
  refine internal_strconv_lower_fn _ ?_
  unfold internal_strconv_lower_H
  exact ⟨rfl, rfl⟩
theorem ifB_t {b : Bool} {y n : Prop} (h : b = true) (hy : y) : ifB b y n := by rw [h]; exact hy
theorem ifB_f {b : Bool} {y n : Prop} (h : b = false) (hn : n) : ifB b y n := by rw [h]; exact hn
abbrev puT (n : Int) (b : Bool) : TV := .tup [(false, [.fz (.int .u64 n)]), (false, [.fz (.ifc b)])]
theorem pHex_loop (T : List Int) (hT : Bytes T) (hlen : T.length ≤ 6) (hok : hexOk T = true) (R : TV → List Ob → Prop) : ∀ (m i : Nat) (n : Int), T.length - i = m → i ≤ T.length → 0 ≤ n → n < 16 ^ i → R (puT (hexA (T.drop i) n) false) [] → internal_strconv_ParseUint_L0 R (bytesOf T) n i := by
  have p6 : (16 : Int) ^ 6 = 16777216 := by decide
  have hp : ∀ i : Nat, i ≤ 6 → (16 : Int) ^ i ≤ 16777216 := fun i hi => by rw [← p6]; exact pow_mono (by omega) hi
  intro m
  induction m with
  | zero =>
    intro i n hi hle h0 h1 hR
    refine internal_strconv_ParseUint_l0 ?_
    unfold internal_strconv_ParseUint_R0
    rw [map_bs, bs_of hT, ints_len]
    refine ifB_f (by simp; omega) ?_
    rw [List.drop_eq_nil_of_le (by omega)] at hR
    exact hR
  | succ m ih =>
    intro i n hi hle h0 h1 hR
    refine internal_strconv_ParseUint_l0 ?_
    unfold internal_strconv_ParseUint_R0
    have hlt : i < T.length := by omega
    have hb := hT.rd (by omega) i
    have hpi := hp i (by omega)
    have hp1 : (16 : Int) ^ (i + 1) = 16 ^ i * 16 := Int.pow_succ 16 i
    have hd0 : 0 ≤ hexD (rd T i) := by
      unfold hexOk at hok
      rw [List.all_eq_true] at hok
      have := hok _ (List.getElem_mem hlt)
      rw [← rd_at T i hlt] at this
      simpa using this
    have hd1 := hexD_lt (rd T i)
    have hlow := low_tab ⟨(rd T i).toNat, by omega⟩
    simp only at hlow
    rw [show (((rd T i).toNat : Nat) : Int) = rd T i by omega] at hlow
    have h95 : rd T i ≠ 95 := fun e => by rw [e] at hd0; exact absurd hd0 (by decide)
    rw [drop_rd' T i hlt] at hR
    unfold hexA at hR
    have next : internal_strconv_ParseUint_L0 R (bytesOf T) (n * 16 + hexD (rd T i)) (IntKind.wrap .i64 ((i : Int) + 1)) := by
      rw [w64 (by omega) (by omega)]
      have := ih (i + 1) (n * 16 + hexD (rd T i)) (by omega) (by omega) (by omega) (by rw [hp1]; omega) hR
      simpa using this
    have e16 : IntKind.wrap .u8 16 = 16 := rfl
    have e16' : IntKind.wrap .u64 16 = 16 := rfl
    have em : IntKind.wrap .u64 ((IntKind.wrap .u64 (1 * (2 ^ (min (Int.toNat (IntKind.wrap .u64 32)) 64)))) - 1) = 4294967295 := by decide +kernel
    rw [map_bs, bs_of hT, ints_len, Int.toNat_natCast]
    refine ifB_t (by simp; omega) ⟨by omega, rd T i, by simp [ints, some_rd hlt], ifB_f (by simpa using h95) ?_⟩
    rw [e16, e16', em, wu64 (n := n * 16) (by omega) (by omega)]
    have letters : ¬ (48 ≤ rd T i ∧ rd T i ≤ 57) → lowV (rd T i) = hexD (rd T i) + 87 ∧ 10 ≤ hexD (rd T i) := by
      intro h
      refine ⟨hlow hd0 h, ?_⟩
      unfold hexD at hd0 ⊢
      rw [if_neg h] at hd0 ⊢
      revert hd0
      repeat' split
      all_goals omega
    by_cases hdig : 48 ≤ rd T i ∧ rd T i ≤ 57
    · have hD : hexD (rd T i) = rd T i - 48 := by unfold hexD; rw [if_pos hdig]
      rw [hD] at next
      refine ifB_t (by simp; omega) (ifB_t (by simp; omega) ?_)
      rw [wu8 (n := rd T i - 48) (by omega) (by omega), wu64 (n := rd T i - 48) (by omega) (by omega), wu64 (n := n * 16 + (rd T i - 48)) (by omega) (by omega)]
      exact ifB_f (by simp; omega) (ifB_f (by simp; omega) (ifB_f (by simp; omega) (ifB_f (by simp; omega) next)))
    · obtain ⟨hl, h10⟩ := letters hdig
      have hlo := lower_ok (rd T i)
      rw [hl] at hlo
      by_cases h48 : 48 ≤ rd T i
      · refine ifB_t (by simpa using h48) (ifB_f (by simp; omega) ⟨_, hlo, ?_⟩)
        refine ifB_t (by simp; omega) ⟨_, hlo, ifB_t (by simp; omega) ⟨_, hlo, ?_⟩⟩
        rw [wu8 (n := hexD (rd T i) + 87 - 97) (by omega) (by omega), wu8 (n := hexD (rd T i) + 87 - 97 + 10) (by omega) (by omega), wu64 (n := hexD (rd T i) + 87 - 97 + 10) (by omega) (by omega), wu64 (n := n * 16 + (hexD (rd T i) + 87 - 97 + 10)) (by omega) (by omega)]
        rw [show n * 16 + (hexD (rd T i) + 87 - 97 + 10) = n * 16 + hexD (rd T i) by omega]
        exact ifB_f (by simp; omega) (ifB_f (by simp; omega) (ifB_f (by simp; omega) (ifB_f (by simp; omega) next)))
      · refine ifB_f (by simp; omega) ⟨_, hlo, ?_⟩
        refine ifB_t (by simp; omega) ⟨_, hlo, ifB_t (by simp; omega) ⟨_, hlo, ?_⟩⟩
        rw [wu8 (n := hexD (rd T i) + 87 - 97) (by omega) (by omega), wu8 (n := hexD (rd T i) + 87 - 97 + 10) (by omega) (by omega), wu64 (n := hexD (rd T i) + 87 - 97 + 10) (by omega) (by omega), wu64 (n := n * 16 + (hexD (rd T i) + 87 - 97 + 10)) (by omega) (by omega)]
        rw [show n * 16 + (hexD (rd T i) + 87 - 97 + 10) = n * 16 + hexD (rd T i) by omega]
        exact ifB_f (by simp; omega) (ifB_f (by simp; omega) (ifB_f (by simp; omega) (ifB_f (by simp; omega) next)))
end Go.Proofs.YtejefchehdifhaaDoor.Ev
end
section
set_option linter.unusedVariables false
set_option linter.unusedSimpArgs false
namespace Go.Proofs.YtejefchehdifhaaDoor.Ev
open Go Go.RowKit
theorem chs_more : ∀ (f at_ : Nat) (l acc : List Int), (chs f l at_ acc).2 = -1 → l.length - at_ < f → acc.length ≤ (chs f l at_ acc).1.length ∧ (at_ < l.length → acc.length < (chs f l at_ acc).1.length)
  | 0, at_, l, acc, h, hf => by omega
  | f + 1, at_, l, acc, h, hf => by
    unfold chs at h ⊢
    split
    · exact ⟨Nat.le_refl _, fun h => by omega⟩
    · rename_i h1
      rw [if_neg h1] at h
      split
      · rename_i h2
        rw [if_pos h2] at h
        simp only at h
        omega
      · rename_i h2
        rw [if_neg h2] at h
        have hf2 : l.length - (at_ + (ch1 (l.drop at_)).2.toNat) < f ∨ (ch1 (l.drop at_)).2.toNat = 0 := by omega
        rcases hf2 with hf2 | hf2
        · have := (chs_more f _ l _ h hf2).1
          rw [List.length_append, List.length_singleton] at this
          exact ⟨by omega, fun _ => by omega⟩
        · exfalso
          have h3 : (ch1 (l.drop at_)).2 < 0 := by omega
          revert h3
          unfold ch1 chN
          repeat' split
          all_goals (simp only; omega)
def oneB (T : List Int) : Bool := decide (T ≠ [] ∧ (ch1 T).2 = (T.length : Int))
theorem chars_one {T : List Int} (hT : Bytes T) : ((chars T).2 = -1 ∧ (chars T).1.length = 1) ↔ oneB T = true := by
  unfold oneB
  rw [decide_eq_true_eq]
  cases T with
  | nil => simp [chars, chs]
  | cons x r =>
    have hb := ch1_bounds hT (by simp)
    have hd : (x :: r).drop 0 = x :: r := rfl
    unfold chars
    rw [show (x :: r).length + 1 = (r.length + 1) + 1 from rfl]
    unfold chs
    rw [if_neg (by simp), hd]
    by_cases h0 : (ch1 (x :: r)).2 = 0
    · rw [if_pos h0]
      simp only [List.length_cons] at hb ⊢
      constructor
      · rintro ⟨h, _⟩; simp at h
      · rintro ⟨_, h⟩; omega
    · rw [if_neg h0]
      constructor
      · rintro ⟨h1, h2⟩
        refine ⟨by simp, ?_⟩
        by_cases hlt : 0 + (ch1 (x :: r)).2.toNat < (x :: r).length
        · have := (chs_more (r.length + 1) _ _ _ h1 (by simp at hb ⊢; omega)).2 hlt
          simp only [List.length_append, List.length_nil, List.length_singleton] at this
          omega
        · omega
      · rintro ⟨_, h⟩
        unfold chs
        rw [if_pos (by omega)]
        simp
theorem chars_val {T : List Int} (h : oneB T = true) : rd (chars T).1 0 = (ch1 T).1 := by
  unfold oneB at h
  rw [decide_eq_true_eq] at h
  cases T with
  | nil => simp at h
  | cons x r =>
    have hd : (x :: r).drop 0 = x :: r := rfl
    unfold chars
    rw [show (x :: r).length + 1 = (r.length + 1) + 1 from rfl]
    unfold chs
    rw [if_neg (by simp), hd, if_neg (by have := h.2; simp at this; omega)]
    unfold chs
    rw [if_pos (by omega)]
    rfl
theorem namedV_one {T : List Int} (hT : Bytes T) (h : oneB T = true) : rd (chars T).1 0 = (ch1 T).1 ∧ 0 ≤ (ch1 T).1 := by
  refine ⟨chars_val h, ?_⟩
  unfold oneB at h
  rw [decide_eq_true_eq] at h
  exact (ch1_bounds hT h.1).1
abbrev namT (v : Int) : TV := .tup [(false, [.fz (.int .i64 (if 0 ≤ v then v else 0))]), (false, [.fz (.bool (decide (0 ≤ v)))])]
theorem namT_ok {v : Int} (h : 0 ≤ v) : namT v = .tup [(false, [.fz (.int .i64 v)]), (false, [.fz (.bool true)])] := by unfold namT; rw [if_pos h, decide_eq_true h]
theorem namT_bad {v : Int} (h : v < 0) : namT v = .tup [(false, [.fz (.int .i64 0)]), (false, [.fz (.bool false)])] := by unfold namT; rw [if_neg (by omega), decide_eq_false (by omega)]
theorem nm_l {T : List Int} (hT : Bytes T) (a : Array UInt8) (l : List Int) (hl : Bytes l) (h : ByteArray.mk a = bytesOf l) : (ByteArray.toList (ByteArray.mk a) == ByteArray.toList (bytesOf T)) = decide (l = T) := by
  rw [h]; exact eq_bytes hl hT
theorem nm0 : Bytes [115, 112, 97, 99, 101] ∧ ByteArray.mk #[115, 112, 97, 99, 101] = bytesOf [115, 112, 97, 99, 101] := ⟨by intro x hx; simp at hx; omega, by decide +kernel⟩
theorem nm1 : Bytes [110, 101, 119, 108, 105, 110, 101] ∧ ByteArray.mk #[110, 101, 119, 108, 105, 110, 101] = bytesOf [110, 101, 119, 108, 105, 110, 101] := ⟨by intro x hx; simp at hx; omega, by decide +kernel⟩
theorem nm2 : Bytes [116, 97, 98] ∧ ByteArray.mk #[116, 97, 98] = bytesOf [116, 97, 98] := ⟨by intro x hx; simp at hx; omega, by decide +kernel⟩
theorem nm3 : Bytes [114, 101, 116, 117, 114, 110] ∧ ByteArray.mk #[114, 101, 116, 117, 114, 110] = bytesOf [114, 101, 116, 117, 114, 110] := ⟨by intro x hx; simp at hx; omega, by decide +kernel⟩
theorem nm4 : Bytes [110, 117, 108, 108] ∧ ByteArray.mk #[110, 117, 108, 108] = bytesOf [110, 117, 108, 108] := ⟨by intro x hx; simp at hx; omega, by decide +kernel⟩
theorem nm5 : Bytes [100, 101, 108, 101, 116, 101] ∧ ByteArray.mk #[100, 101, 108, 101, 116, 101] = bytesOf [100, 101, 108, 101, 116, 101] := ⟨by intro x hx; simp at hx; omega, by decide +kernel⟩
theorem slPrefix_ok (T : List Int) (hT : Bytes T) (hlen : T.length ≤ 16777216) : Fn Tryd.prog 44 [.one (.fz (.str (bytesOf T))), .one (.fz (.str (ByteArray.mk #[120])))] [] (fzB (decide (T.head? = some 120))) [] := by
  refine internal_stringslite_HasPrefix_fn _ _ ?_
  obtain ⟨R, hR, hRe⟩ := exR (fzB (decide (T.head? = some 120))); rw [hRe]; clear hRe
  unfold internal_stringslite_HasPrefix_H
  have e1 : ((ByteArray.size (ByteArray.mk #[120]) : Nat) : Int) = 1 := rfl
  rw [e1, size_of, dec_t, dec_f, show Int.toNat 1 = 1 from rfl]
  refine ⟨fun h => ⟨⟨by omega, by omega⟩, ?_⟩, fun h => ?_⟩
  · have e2 : ByteArray.mk #[120] = bytesOf [120] := by decide +kernel
    have hb : Bytes (((T.drop 0).take (1 - 0))) := fun x hx => hT x (List.mem_of_mem_drop (List.mem_of_mem_take hx))
    rw [extract_of, e2, eq_bytes hb (by intro x hx; simp at hx; omega)]
    cases T with
    | nil => simp at h
    | cons x r => simpa using hR
  · cases T with
    | nil => simpa using hR
    | cons x r => simp at h; omega
abbrev cutR (T : List Int) : TV := .tup [(false, [.fz (.str (bytesOf (if T.head? = some 120 then T.drop 1 else T)))]), (false, [.fz (.bool (decide (T.head? = some 120)))])]
theorem slCut_ok (T : List Int) (hT : Bytes T) (hlen : T.length ≤ 16777216) : Fn Tryd.prog 87 [.one (.fz (.str (bytesOf T))), .one (.fz (.str (ByteArray.mk #[120])))] [] (cutR T) [] := by
  refine internal_stringslite_CutPrefix_fn _ _ ?_
  obtain ⟨R, hR, hRe⟩ := exR (cutR T); rw [hRe]; clear hRe
  unfold internal_stringslite_CutPrefix_H
  refine ⟨_, slPrefix_ok T hT hlen, ?_⟩
  have e1 : ((ByteArray.size (ByteArray.mk #[120]) : Nat) : Int) = 1 := rfl
  unfold cutR at hR
  rw [not_t, not_f, dec_f, dec_t, e1, size_of, show Int.toNat 1 = 1 from rfl]
  refine ⟨fun h => ?_, fun h => ?_⟩
  · rw [if_neg h, decide_eq_false h] at hR; exact hR
  · rw [if_pos h, decide_eq_true h] at hR
    have hl : 1 ≤ T.length := by cases T with
      | nil => simp at h
      | cons x r => simp
    refine ⟨⟨by omega, by omega⟩, ?_⟩
    rw [extract_of, List.take_of_length_le (by simp)]
    exact hR
theorem cutPrefix_ok (T : List Int) (hT : Bytes T) (hlen : T.length ≤ 16777216) : Fn Tryd.prog 77 [.one (.fz (.str (bytesOf T))), .one (.fz (.str (ByteArray.mk #[120])))] [] (cutR T) [] := by
  refine strings_CutPrefix_fn _ _ ?_
  unfold strings_CutPrefix_H
  exact ⟨_, _, slCut_ok T hT hlen, rfl, rfl⟩
theorem pHexI_ok (T : List Int) (hT : Bytes T) (hlen : T.length ≤ 6) (hne : T ≠ []) (hok : hexOk T = true) : Fn Tryd.prog 82 [.one (.fz (.str (bytesOf T))), fzI .i64 16, fzI .i64 32] [] (puT (hexA T 0) false) [] := by
  refine internal_strconv_ParseUint_fn _ ?_
  unfold internal_strconv_ParseUint_H
  have e : (ByteArray.toList (bytesOf T) == ByteArray.toList (ByteArray.mk #[])) = false := by
    have := eq_bytes (m := []) hT Bytes.nil
    rw [show (ByteArray.mk #[]) = bytesOf [] from rfl, this]
    simpa using hne
  refine ifB_f e ⟨by decide, ?_⟩
  exact pHex_loop T hT hlen hok _ _ 0 0 rfl (Nat.zero_le _) (by omega) (by simp) ⟨rfl, rfl⟩
theorem pHex_ok (T : List Int) (hT : Bytes T) (hlen : T.length ≤ 6) (hne : T ≠ []) (hok : hexOk T = true) : Fn Tryd.prog 78 [.one (.fz (.str (bytesOf T))), fzI .i64 16, fzI .i64 32] [] (puT (hexA T 0) false) [] := by
  refine strconv_ParseUint_fn _ ?_
  unfold strconv_ParseUint_H
  exact ⟨_, _, pHexI_ok T hT hlen hne hok, ifB_f rfl ⟨rfl, rfl⟩⟩
theorem DecodeInString_fn (T : List Int) : Fn Tryd.prog 66 [.one (.fz (.str (bytesOf T)))] [] (.tup [(false, [.fz (.int .i32 (deR T))]), (false, [.fz (.int .i64 (deN T))])]) [] := by
  intro ext w locs vals H hsz hrep
  obtain ⟨v, hv, hr⟩ := hrep 0 _ rfl
  have e : vals = #[v] := by
    apply Array.ext
    · simpa using hsz
    · intro i h1 h2
      have : i = 0 := by simp at h2; omega
      subst this
      rw [Array.getElem?_eq_getElem h1] at hv
      simpa using hv
  subst e
  replace hr : RF w (Bar ext locs []) (.str (bytesOf T)) v := hr
  cases hr
  refine (Tryd.utf8_DecodeRuneInString (bytesOf T) w (utf_tabs H.glob)).mono ?_
  rintro e w' ⟨rfl, hb⟩
  refine ⟨.tuple #[.int .i32 (deR T), .int .i64 (deN T)], locs, rfl, H.below hb, #[.int .i32 (deR T), .int .i64 (deN T)], rfl, rfl, fun i b' cs hi => ?_⟩
  match i with
  | 0 =>
    cases hi
    refine ⟨.int .i32 (deR T), rfl, [.int .i32 (deR T)], rfl, rfl, fun _ => rfl, fun j x hj => ?_⟩
    cases j with
    | zero => cases hj; exact ⟨_, rfl, .int _ _⟩
    | succ j => simp at hj
  | 1 =>
    cases hi
    refine ⟨.int .i64 (deN T), rfl, [.int .i64 (deN T)], rfl, rfl, fun _ => rfl, fun j x hj => ?_⟩
    cases j with
    | zero => cases hj; exact ⟨_, rfl, .int _ _⟩
    | succ j => simp at hj
  | i + 2 => simp at hi
theorem uNamed_ok (T : List Int) (hT : Bytes T) (hlen : T.length ≤ 16777216) : Fn Tryd.prog 64 [.one (.fz (.str (bytesOf T)))] [] (namT (namedV T)) [] := by
  refine utf_Named_fn _ ?_
  obtain ⟨R, hR, hRe⟩ := exR (namT (namedV T)); rw [hRe]; clear hRe
  unfold namedV at hR
  unfold utf_Named_H
  refine utf_Named_l0 ?_
  unfold utf_Named_R0
  refine ⟨fun _ => ⟨by omega, 32, ByteArray.mk #[115, 112, 97, 99, 101], rfl, ?_, ?_⟩, fun h => absurd h (by decide)⟩ <;> rw [nm_l hT _ _ nm0.1 nm0.2]
  · exact fun h => (by rw [if_pos (of_decide_eq_true h).symm, namT_ok (by omega)] at hR; exact hR)
  intro n0
  replace n0 : ¬ T = [115, 112, 97, 99, 101] := fun h => of_decide_eq_false n0 h.symm
  rw [if_neg n0] at hR
  rw [w64 (by omega) (by omega)]
  refine utf_Named_l0 ?_
  unfold utf_Named_R0
  refine ⟨fun _ => ⟨by omega, 10, ByteArray.mk #[110, 101, 119, 108, 105, 110, 101], rfl, ?_, ?_⟩, fun h => absurd h (by decide)⟩ <;> rw [nm_l hT _ _ nm1.1 nm1.2]
  · exact fun h => (by rw [if_pos (of_decide_eq_true h).symm, namT_ok (by omega)] at hR; exact hR)
  intro n1
  replace n1 : ¬ T = [110, 101, 119, 108, 105, 110, 101] := fun h => of_decide_eq_false n1 h.symm
  rw [if_neg n1] at hR
  rw [w64 (by omega) (by omega)]
  refine utf_Named_l0 ?_
  unfold utf_Named_R0
  refine ⟨fun _ => ⟨by omega, 9, ByteArray.mk #[116, 97, 98], rfl, ?_, ?_⟩, fun h => absurd h (by decide)⟩ <;> rw [nm_l hT _ _ nm2.1 nm2.2]
  · exact fun h => (by rw [if_pos (of_decide_eq_true h).symm, namT_ok (by omega)] at hR; exact hR)
  intro n2
  replace n2 : ¬ T = [116, 97, 98] := fun h => of_decide_eq_false n2 h.symm
  rw [if_neg n2] at hR
  rw [w64 (by omega) (by omega)]
  refine utf_Named_l0 ?_
  unfold utf_Named_R0
  refine ⟨fun _ => ⟨by omega, 13, ByteArray.mk #[114, 101, 116, 117, 114, 110], rfl, ?_, ?_⟩, fun h => absurd h (by decide)⟩ <;> rw [nm_l hT _ _ nm3.1 nm3.2]
  · exact fun h => (by rw [if_pos (of_decide_eq_true h).symm, namT_ok (by omega)] at hR; exact hR)
  intro n3
  replace n3 : ¬ T = [114, 101, 116, 117, 114, 110] := fun h => of_decide_eq_false n3 h.symm
  rw [if_neg n3] at hR
  rw [w64 (by omega) (by omega)]
  refine utf_Named_l0 ?_
  unfold utf_Named_R0
  refine ⟨fun _ => ⟨by omega, 0, ByteArray.mk #[110, 117, 108, 108], rfl, ?_, ?_⟩, fun h => absurd h (by decide)⟩ <;> rw [nm_l hT _ _ nm4.1 nm4.2]
  · exact fun h => (by rw [if_pos (of_decide_eq_true h).symm, namT_ok (by omega)] at hR; exact hR)
  intro n4
  replace n4 : ¬ T = [110, 117, 108, 108] := fun h => of_decide_eq_false n4 h.symm
  rw [if_neg n4] at hR
  rw [w64 (by omega) (by omega)]
  refine utf_Named_l0 ?_
  unfold utf_Named_R0
  refine ⟨fun _ => ⟨by omega, 127, ByteArray.mk #[100, 101, 108, 101, 116, 101], rfl, ?_, ?_⟩, fun h => absurd h (by decide)⟩ <;> rw [nm_l hT _ _ nm5.1 nm5.2]
  · exact fun h => (by rw [if_pos (of_decide_eq_true h).symm, namT_ok (by omega)] at hR; exact hR)
  intro n5
  replace n5 : ¬ T = [100, 101, 108, 101, 116, 101] := fun h => of_decide_eq_false n5 h.symm
  rw [if_neg n5] at hR
  rw [w64 (by omega) (by omega)]
  refine utf_Named_l0 ?_
  unfold utf_Named_R0
  refine ⟨fun h => absurd h (by decide), fun _ => ⟨_, _, DecodeInString_fn T, ?_⟩⟩
  rw [size_of]
  by_cases h1 : oneB T = true
  · have hc := (chars_one hT).2 h1
    obtain ⟨q1, q2⟩ := namedV_one hT h1
    rw [if_pos hc, q1, namT_ok q2] at hR
    have h1' := h1
    unfold oneB at h1'
    rw [decide_eq_true_eq] at h1'
    have hl : T.length ≠ 0 := fun e => h1'.1 (List.length_eq_zero_iff.1 e)
    rcases de_ch1 hT h1'.1 with ⟨c1, c2, c3⟩ | ⟨c1, c2⟩
    · rw [c1] at h1'; simp at h1'; omega
    · have g1 : (ch1 T).1 = deR T := by rw [c1]
      have g2 : (ch1 T).2 = deN T := by rw [c1]
      have hb := ch1_bounds hT h1'.1
      rw [g1] at hR q2 hb
      simp only [beq_t, beq_f, dec_t, dec_f, bne_t, bne_f, w64 (n := deR T) (by omega) (by omega)]
      refine ⟨fun _ => ⟨fun _ => ⟨fun _ => hR, fun h => ⟨fun _ => hR, fun h => by omega⟩⟩, fun h => by omega⟩, fun h => by omega⟩
  · have hc : ¬ ((chars T).2 = -1 ∧ (chars T).1.length = 1) := fun h => h1 ((chars_one hT).1 h)
    rw [if_neg hc] at hR
    have ht := hR
    have hx1 : T ≠ [120] := fun e => h1 (by rw [e]; decide +kernel)
    have head_rd' : (2 ≤ T.length ∧ rd T 0 = 120) → T.head? = some 120 := fun hx => by
      cases T with
      | nil => simp at hx
      | cons x r => simpa [rd] using hx.2
    have tailG : ∀ G : Prop, (R (namT (if 2 ≤ T.length ∧ rd T 0 = 120 then hexV (T.drop 1) else -1)) [] → G) → G := fun G h => h ht
    simp only [beq_t, beq_f, dec_t, dec_f, bne_t, bne_f]
    have no : ¬ (deN T = (T.length : Int) ∧ 0 < deN T ∧ (deR T ≠ 65533 ∨ 1 < deN T)) := by
      rintro ⟨a1, a2, a3⟩
      have hne : T ≠ [] := fun e => by rw [e] at a1 a2; simp at a1; omega
      rcases de_ch1 hT hne with ⟨c1, c2, c3⟩ | ⟨c1, c2⟩
      · omega
      · refine h1 ?_
        unfold oneB
        rw [decide_eq_true_eq, c1]
        exact ⟨hne, a1⟩
    refine ⟨fun a1 => ⟨fun a2 => ⟨fun a3 => absurd ⟨a1, a2, .inl a3⟩ no, fun a3 => ⟨fun a4 => absurd ⟨a1, a2, .inr a4⟩ no, fun a4 => ?_⟩⟩, fun a2 => ?_⟩, fun a1 => ?_⟩
    all_goals
      refine ⟨_, _, cutPrefix_ok T hT hlen, ?_⟩
      simp only [not_t, not_f, dec_t, dec_f]
      refine ⟨fun hp => ?_, fun hp => ?_⟩
      · rw [if_neg (fun hx => hp (head_rd' hx)), namT_bad (by omega)] at ht; exact ht
      · have hl : T ≠ [] := fun e => by rw [e] at hp; simp at hp
        have h120 : rd T 0 = 120 := by cases T with
          | nil => simp at hp
          | cons x r => simpa [rd] using hp
        rw [if_pos hp]
        simp only [size_of]
        have hl2 : 2 ≤ T.length := by
          cases T with
          | nil => simp at hl
          | cons x r => cases r with
            | nil => exact absurd (by simpa using hp) hx1
            | cons y r => simp
        rw [if_pos ⟨hl2, h120⟩] at ht
        unfold hexV at ht
        rw [List.length_drop] at ht ⊢
        refine ⟨fun h6 => ?_, fun h6 => ?_⟩
        · rw [if_neg (by omega), namT_bad (by omega)] at ht; exact ht
        · rw [if_pos (by omega), hexR_eq] at ht
          refine ⟨_, Trim_fn (bytesOf (T.drop 1)) _ (by rw [size_of]; simp; omega) (by decide) (by decide +kernel), ?_⟩
          rw [trim_hex (drop_bytes hT 1)]
          refine ⟨fun hx => ?_, fun hx => ?_⟩
          · rw [if_neg (by rw [hx]; simp), namT_bad (by omega)] at ht; exact ht
          · rw [if_pos hx] at ht
            have hb := hexA_bound (T.drop 1) 0 1 hx (by omega) (by omega)
            have p6 : (1 : Int) * 16 ^ (T.drop 1).length ≤ 16777216 := by
              have : (16 : Int) ^ 6 = 16777216 := by decide
              rw [Int.one_mul, ← this]
              exact pow_mono (by omega) (by simp; omega)
            refine ⟨_, _, pHex_ok (T.drop 1) (drop_bytes hT 1) (by simp; omega) (fun e => by have := congrArg List.length e; simp at this; omega) hx, ?_⟩
            refine ⟨fun h => absurd h (by decide), fun _ => ⟨_, uScalar_ok _, ?_⟩⟩
            rw [w64 (by omega) (by omega)]
            refine ⟨fun hs => ?_, fun hs => ?_⟩
            · rw [if_neg (by rw [hs]; simp), namT_bad (by omega)] at ht; exact ht
            · rw [if_pos hs, namT_ok (by omega)] at ht; exact ht
end Go.Proofs.YtejefchehdifhaaDoor.Ev
end
section
set_option linter.unusedVariables false
set_option linter.unusedSimpArgs false
namespace Go.Proofs.YtejefchehdifhaaDoor.Ev
open Go
abbrev scM (t : List Int) (p : Nat) : List Ob := [.g 59 [.fz (.sl 1 (ints .i64 t)), .fz (.int .i64 ((p : Nat) : Int))]]
abbrev scP : TV := .one (.ptr 0 0 0 59)
theorem pkL_lt {l : List Int} {i : Nat} (h : i < l.length) : pkL l i = rd l i := if_pos h
theorem pkL_ge {l : List Int} {i : Nat} (h : l.length ≤ i) : pkL l i = -1 := if_neg (by omega)
theorem sLeft_ok (t : List Int) (p n : Nat) (hp : p ≤ 1000000000) (hn : n ≤ 1000000000) : Fn Tryd.prog 22 [scP, fzI .i64 ((n : Nat) : Int)] (scM t p) (fzB (decide (p + n ≤ t.length))) (scM t p) := by
  refine token_scanner_leftO_fn _ _ _ ?_
  obtain ⟨R, hR, hRe⟩ := exW (fzB (decide (p + n ≤ t.length))) (scM t p); rw [hRe]; clear hRe
  unfold token_scanner_leftO_H
  rw [w64 (by omega) (by omega), ints_len]
  have : decide ((p : Int) + (n : Int) ≤ (t.length : Int)) = decide (p + n ≤ t.length) := by rw [decide_eq_decide]; omega
  rw [this]
  exact hR _ (Wk.refl _)
theorem sPeek_ok (t : List Int) (p n : Nat) (hp : p ≤ 1000000000) (hn : n ≤ 1000000) : Fn Tryd.prog 34 [scP, fzI .i64 ((n : Nat) : Int)] (scM t p) (fzI .i64 (pkL t (p + n))) (scM t p) := by
  refine token_scanner_peekO_fn _ _ _ ?_
  obtain ⟨R, hR, hRe⟩ := exW (fzI .i64 (pkL t (p + n))) (scM t p); rw [hRe]; clear hRe
  unfold token_scanner_peekO_H
  have hl := sLeft_ok t p (n + 1) hp (by omega)
  rw [show ((n + 1 : Nat) : Int) = (n : Int) + 1 by omega] at hl
  rw [w64 (n := (n : Int) + 1) (by omega) (by omega)]
  refine ⟨_, _, _, hl, ?_⟩
  simp only [not_t, not_f, dec_t, dec_f, decide_eq_true_eq, decide_eq_false_iff_not]
  refine ⟨fun h => ?_, fun h => ?_⟩
  · rw [pkL_ge (by omega)] at hR; exact hR _ (Wk.refl _)
  · rw [pkL_lt (by omega)] at hR
    rw [w64 (by omega) (by omega)]
    exact ⟨by omega, rd t (p + n), by rw [show Int.toNat ((p : Int) + (n : Int)) = p + n by omega]; simp [ints, some_rd (show p + n < t.length by omega)], hR _ (Wk.refl _)⟩
theorem sBlanks_loop (t : List Int) (hlen : t.length ≤ 100000000) (R : TV → List Ob → Prop) : ∀ (m q : Nat), t.length - q = m → q ≤ t.length →
    ((∀ h', Wk h' (scM t (q + blC false (t.drop q))) → R (.tup []) h') → token_scanner_blanksO_L0 R (ints .i64 t) q) ∧
    ((∀ h', Wk h' (scM t (q + blC true (t.drop q))) → R (.tup []) h') → token_scanner_blanksO_L1 R (ints .i64 t) q) := by
  intro m
  induction m with
  | zero =>
    intro q hq hle
    have hd : t.drop q = [] := List.drop_eq_nil_of_le (by omega)
    have hp := sPeek_ok t q 0 (by omega) (by omega)
    rw [pkL_ge (by omega)] at hp
    have h0 : (∀ h', Wk h' (scM t q) → R (.tup []) h') → token_scanner_blanksO_L0 R (ints .i64 t) q := fun hR => by
      refine token_scanner_blanksO_l0 ?_
      unfold token_scanner_blanksO_R0
      refine ⟨_, _, _, hp, fun h => absurd h (by decide), fun _ => ⟨fun h => absurd h (by decide), fun _ => hR _ (Wk.refl _)⟩⟩
    refine ⟨fun hR => ?_, fun hR => ?_⟩
    · rw [hd] at hR; exact h0 hR
    · rw [hd] at hR
      refine token_scanner_blanksO_l1 ?_
      unfold token_scanner_blanksO_R1
      refine ⟨_, _, _, sLeft_ok t q 1 (by omega) (by omega), fun h => ?_, fun _ => h0 hR⟩
      simp at h; omega
  | succ m ih =>
    intro q hq hle
    have hlt : q < t.length := by omega
    have hp := sPeek_ok t q 0 (by omega) (by omega)
    rw [Nat.add_zero, pkL_lt hlt] at hp
    have hl := sLeft_ok t q 1 (by omega) (by omega)
    rw [decide_eq_true (by omega)] at hl
    have hd := drop_rd' t q hlt
    obtain ⟨ih0, ih1⟩ := ih (q + 1) (by omega) (by omega)
    have e : IntKind.wrap .i64 ((q : Int) + 1) = ((q + 1 : Nat) : Int) := w64 (by omega) (by omega)
    have h0 : (∀ h', Wk h' (scM t (q + blC false (t.drop q))) → R (.tup []) h') → token_scanner_blanksO_L0 R (ints .i64 t) q := fun hR => by
      rw [hd] at hR
      unfold blC at hR
      refine token_scanner_blanksO_l0 ?_
      unfold token_scanner_blanksO_R0
      refine ⟨_, _, _, hp, ?_⟩
      simp only [dec_t, dec_f, beq_t, beq_f, e]
      have semi : rd t q = 59 → token_scanner_blanksO_L1 R (ints .i64 t) q := fun h => by
        rw [if_neg (by rw [h]; decide), if_pos h] at hR
        refine token_scanner_blanksO_l1 ?_
        unfold token_scanner_blanksO_R1
        refine ⟨_, _, _, hl, fun _ => ⟨_, _, _, hp, ?_⟩, fun h => absurd h (by decide)⟩
        simp only [bne_t, bne_f, e]
        refine ⟨fun _ => ih1 ?_, fun h => by omega⟩
        rw [show q + (blC true (t.drop (q + 1)) + 1) = q + 1 + blC true (t.drop (q + 1)) by omega] at hR
        exact hR
      have out : blankB (rd t q) = false → rd t q ≠ 59 → R (.tup []) (scM t q) := fun h1 h2 => by
        rw [if_neg (by rw [h1]; simp), if_neg h2] at hR
        exact hR _ (Wk.refl _)
      refine ⟨fun _ => ⟨_, uBlank_ok _, fun hb => ?_, fun hb => ⟨semi, out hb⟩⟩, fun h => ⟨semi, out ?_⟩⟩
      · rw [if_pos hb, show q + (blC false (t.drop (q + 1)) + 1) = q + 1 + blC false (t.drop (q + 1)) by omega] at hR
        exact ih0 hR
      · unfold blankB; rw [decide_eq_false_iff_not]; omega
    refine ⟨h0, fun hR => ?_⟩
    refine token_scanner_blanksO_l1 ?_
    unfold token_scanner_blanksO_R1
    refine ⟨_, _, _, hl, fun _ => ⟨_, _, _, hp, ?_⟩, fun h => absurd h (by decide)⟩
    simp only [bne_t, bne_f, e]
    refine ⟨fun h => ih1 ?_, fun h => h0 ?_⟩
    · rw [hd] at hR
      unfold blC at hR
      rw [if_neg h, show q + (blC true (t.drop (q + 1)) + 1) = q + 1 + blC true (t.drop (q + 1)) by omega] at hR
      exact hR
    · have hb : blC true (t.drop q) = blC false (t.drop q) := by
        rw [hd, h]; rfl
      rw [← hb]; exact hR
theorem sBlanks_ok (t : List Int) (hlen : t.length ≤ 100000000) (q : Nat) (hq : q ≤ t.length) : Fn Tryd.prog 21 [scP] (scM t q) (.tup []) (scM t (q + blC false (t.drop q))) := by
  refine token_scanner_blanksO_fn _ _ ?_
  obtain ⟨R, hR, hRe⟩ := exW (.tup []) (scM t (q + blC false (t.drop q))); rw [hRe]; clear hRe
  unfold token_scanner_blanksO_H
  exact (sBlanks_loop t hlen R _ q rfl hq).1 hR
theorem enc_map (l : List Int) : ints .u8 (enc l) = List.map (fun n => [FV.int .u8 n]) (enc l) := rfl
theorem sWhile_loop (t : List Int) (hs : Scals t) (hlen : t.length ≤ 100000000) (p : Nat) (R : TV → List Ob → Prop) : ∀ (m q : Nat), t.length - q = m → q ≤ t.length → p ≤ q →
    (∀ h', Wk h' (scM t (q + untilN (t.drop q))) → R (.one (.fz (.str (bytesOf (enc ((t.drop p).take (q + untilN (t.drop q) - p))))))) h') → token_scanner_whileO_L0 R p (ints .i64 t) q := by
  intro m
  have fin : ∀ q, q ≤ t.length → p ≤ q → ∀ G : TV → List Ob → Prop, (∀ h', Wk h' (scM t q) → G (.one (.fz (.str (bytesOf (enc ((t.drop p).take (q - p))))))) h') →
      ((0 : Int) ≤ (p : Int) ∧ (p : Int) ≤ (q : Int) ∧ (q : Int) ≤ (((ints .i64 t).length : Nat) : Int)) ∧ ∃ es10 : List (List FV), ∃ n18 : Int, (Fn Tryd.prog 62 [.one (.fz (.sl 1 (List.drop (Int.toNat p) (List.take (Int.toNat q) (ints .i64 t)))))] [] (.tup [(false, [.fz (.sl 1 es10)]), (false, [.fz (.int .i64 n18)])]) []) ∧ ∃ ns4 : List Int, (es10 = List.map (fun n19 => [FV.int .u8 n19]) ns4) ∧ G (.one (.fz (.str (bytesOf ns4)))) (scM t q) := by
    intro q h1 h2 G hG
    rw [ints_len, Int.toNat_natCast, Int.toNat_natCast, ints_take, ints_drop]
    have e1 : (t.take q).drop p = (t.drop p).take (q - p) := List.drop_take
    rw [e1]
    exact ⟨⟨by omega, by omega, by omega⟩, _, _, uEncode_ok _ ((hs.drop p).take _) (by simp; omega), _, enc_map _, hG _ (Wk.refl _)⟩
  induction m with
  | zero =>
    intro q hq hle hpq hR
    rw [List.drop_eq_nil_of_le (show t.length ≤ q by omega)] at hR
    refine token_scanner_whileO_l0 ?_
    unfold token_scanner_whileO_R0
    refine ⟨_, _, _, sLeft_ok t q 1 (by omega) (by omega), fun h => ?_, fun _ => fin q hle hpq R hR⟩
    simp at h; omega
  | succ m ih =>
    intro q hq hle hpq hR
    have hlt : q < t.length := by omega
    have hp := sPeek_ok t q 0 (by omega) (by omega)
    rw [Nat.add_zero, pkL_lt hlt] at hp
    have hl := sLeft_ok t q 1 (by omega) (by omega)
    rw [decide_eq_true (by omega)] at hl
    rw [drop_rd' t q hlt] at hR
    unfold untilN at hR
    have e : IntKind.wrap .i64 ((q : Int) + 1) = ((q + 1 : Nat) : Int) := w64 (by omega) (by omega)
    refine token_scanner_whileO_l0 ?_
    unfold token_scanner_whileO_R0
    refine ⟨_, _, _, hl, fun _ => ⟨_, _, _, hp, _, uEnds_ok _, ?_⟩, fun h => absurd h (by decide)⟩
    simp only [not_t, not_f]
    refine ⟨fun he => ?_, fun he => ?_⟩
    · rw [if_neg (by rw [he]; simp), show q + (untilN (t.drop (q + 1)) + 1) = q + 1 + untilN (t.drop (q + 1)) by omega] at hR
      rw [e]
      exact ih (q + 1) (by omega) (by omega) (by omega) hR
    · rw [if_pos he] at hR
      exact fin q hle hpq R hR
theorem sWhile_ok (t : List Int) (hs : Scals t) (hlen : t.length ≤ 100000000) (p k : Nat) (hq : p + k ≤ t.length) :
    Fn Tryd.prog 48 [scP, fzI .i64 ((k : Nat) : Int)] (scM t p) (.one (.fz (.str (bytesOf (enc ((t.drop p).take (k + untilN (t.drop (p + k))))))))) (scM t (p + k + untilN (t.drop (p + k)))) := by
  refine token_scanner_whileO_fn _ _ _ ?_
  obtain ⟨R, hR, hRe⟩ := exW (.one (.fz (.str (bytesOf (enc ((t.drop p).take (k + untilN (t.drop (p + k))))))))) (scM t (p + k + untilN (t.drop (p + k)))); rw [hRe]; clear hRe
  unfold token_scanner_whileO_H
  rw [w64 (by omega) (by omega)]
  have := sWhile_loop t hs hlen p R _ (p + k) rfl hq (by omega) (fun h' hw => by
    rw [show p + k + untilN (t.drop (p + k)) - p = k + untilN (t.drop (p + k)) by omega]
    exact hR h' hw)
  exact this
def hereB : List Int → List Int → Bool
  | [], _ => true
  | _ :: _, [] => false
  | w :: W, c :: T => decide (c = w) && hereB W T
theorem sHere_loop (t : List Int) (hs : Scals t) (hlen : t.length ≤ 100000000) (p : Nat) (hp : p ≤ t.length) (W : List Int) (hW : Bytes W) (hWl : W.length ≤ 1000) (R : TV → List Ob → Prop) : ∀ (m i : Nat), W.length - i = m → i ≤ W.length →
    (∀ h', Wk h' (scM t p) → R (fzB (hereB (W.drop i) (t.drop (p + i)))) h') → token_scanner_hereO_L0 R (bytesOf W) i (ints .i64 t) p := by
  intro m
  induction m with
  | zero =>
    intro i hi hle hR
    rw [List.drop_eq_nil_of_le (show W.length ≤ i by omega)] at hR
    refine token_scanner_hereO_l0 ?_
    unfold token_scanner_hereO_R0
    rw [size_of]
    refine ⟨fun h => absurd (of_decide_eq_true h) (by omega), fun _ => hR _ (Wk.refl _)⟩
  | succ m ih =>
    intro i hi hle hR
    have hlt : i < W.length := by omega
    obtain ⟨c, hc, hcv⟩ := byte_at hW hlt
    have hb := hW.rd (by omega) i
    rw [drop_rd' W i hlt] at hR
    refine token_scanner_hereO_l0 ?_
    unfold token_scanner_hereO_R0
    rw [size_of]
    refine ⟨fun _ => ⟨_, _, _, sPeek_ok t p i (by omega) (by omega), by omega, c, by rw [Int.toNat_natCast]; exact hc, ?_⟩, fun h => absurd (of_decide_eq_false h) (by omega)⟩
    rw [hcv, w64 (n := rd W i) (by omega) (by omega)]
    simp only [bne_t, bne_f]
    refine ⟨fun hne => ?_, fun heq => ?_⟩
    · have hx : hereB (rd W i :: W.drop (i + 1)) (t.drop (p + i)) = false := by
        by_cases hpt : p + i < t.length
        · rw [pkL_lt hpt] at hne
          rw [drop_rd' t (p + i) hpt]
          unfold hereB
          rw [decide_eq_false hne, Bool.false_and]
        · rw [List.drop_eq_nil_of_le (show t.length ≤ p + i by omega)]; rfl
      rw [hx] at hR
      exact hR _ (Wk.refl _)
    · have hpt : p + i < t.length := by
        unfold pkL at heq
        split at heq
        · assumption
        · omega
      rw [pkL_lt hpt] at heq
      rw [drop_rd' t (p + i) hpt] at hR
      unfold hereB at hR
      rw [decide_eq_true heq, Bool.true_and] at hR
      rw [w64 (by omega) (by omega)]
      exact ih (i + 1) (by omega) (by omega) hR
theorem sHere_ok (t : List Int) (hs : Scals t) (hlen : t.length ≤ 100000000) (p : Nat) (hp : p ≤ t.length) (W : List Int) (hW : Bytes W) (hWl : W.length ≤ 1000) :
    Fn Tryd.prog 36 [scP, .one (.fz (.str (bytesOf W)))] (scM t p) (fzB (hereB W (t.drop p))) (scM t p) := by
  refine token_scanner_hereO_fn _ _ _ ?_
  obtain ⟨R, hR, hRe⟩ := exW (fzB (hereB W (t.drop p))) (scM t p); rw [hRe]; clear hRe
  unfold token_scanner_hereO_H
  exact sHere_loop t hs hlen p hp W hW hWl R _ 0 rfl (Nat.zero_le _) hR
end Go.Proofs.YtejefchehdifhaaDoor.Ev
end
section
set_option linter.unusedVariables false
set_option linter.unusedSimpArgs false
namespace Go.Proofs.YtejefchehdifhaaDoor.Ev
open Go
theorem ch1_ascii {c : Int} {r : List Int} (h : c < 128) : ch1 (c :: r) = (c, 1) := by
  unfold ch1 chN
  have : rd (c :: r) 0 = c := rfl
  rw [this, if_pos h]
theorem namedV_x {B : List Int} (hB : Bytes B) (hne : B ≠ []) : namedV (120 :: B) = hexV B := by
  have hb : Bytes (120 :: B) := by
    intro x hx
    rcases List.mem_cons.1 hx with rfl | hx
    · omega
    · exact hB x hx
  have hl : B.length ≠ 0 := fun e => hne (List.length_eq_zero_iff.1 e)
  have no : ¬ ((chars (120 :: B)).2 = -1 ∧ (chars (120 :: B)).1.length = 1) := by
    rw [chars_one hb]
    unfold oneB
    rw [ch1_ascii (by omega)]
    simp
    omega
  unfold namedV
  rw [if_neg (by simp), if_neg (by simp), if_neg (by simp), if_neg (by simp), if_neg (by simp), if_neg (by simp), if_neg no, if_pos ⟨by simp; omega, rfl⟩]
  rfl
theorem hexV_nil : hexV [] = -1 := by unfold hexV; rw [if_neg (by simp)]
theorem x_of (X : List Int) : ByteArray.mk #[120] ++ bytesOf X = bytesOf (120 :: X) := by
  have e : ByteArray.mk #[120] = bytesOf [120] := by decide +kernel
  rw [e, app_of]; rfl
def hxV (r : List Int) : Int := if pkL r (semN 7 r) = 59 then hexV (enc (r.take (semN 7 r))) else -1
def hxQ (r : List Int) : Nat := if pkL r (semN 7 r) = 59 ∧ semN 7 r ≠ 0 then semN 7 r + 1 else semN 7 r
theorem enc_ne {l : List Int} (hs : Scals l) (h : l ≠ []) : enc l ≠ [] := by
  cases l with
  | nil => exact absurd rfl h
  | cons c r =>
    rw [enc_cons]
    have := utfB_len c
    intro e
    have e2 := congrArg List.length e
    rw [List.length_append] at e2
    simp at e2
    split at this <;> (try split at this) <;> (try split at this) <;> simp [e2.1] at this
theorem sHex_loop (t : List Int) (hs : Scals t) (hlen : t.length ≤ 100000000) (p : Nat) (hp : p ≤ t.length) (R : TV → List Ob → Prop)
    (hR : ∀ h', Wk h' (scM t (p + hxQ (t.drop p))) → R (fzI .i64 (hxV (t.drop p))) h') : ∀ (m j : Nat), t.length - (p + j) = m → j ≤ semN 7 (t.drop p) → token_scanner_hexO_L0 R p (ints .i64 t) ((p + j : Nat) : Int) := by
  obtain ⟨s1, s2⟩ := semN_spec 7 (t.drop p)
  obtain ⟨l1, l2⟩ := semN_le 7 (t.drop p)
  have hdl : (t.drop p).length = t.length - p := List.length_drop
  have hpk : pkL (t.drop p) (semN 7 (t.drop p)) = pkL t (p + semN 7 (t.drop p)) := pkL_drop _ _ _
  unfold hxV hxQ at hR
  rw [hpk] at hR
  generalize semN 7 (t.drop p) = s at *
  have hscal : Scals ((t.drop p).take s) := (hs.drop p).take s
  have hne : s ≠ 0 → p + s ≤ t.length → enc ((t.drop p).take s) ≠ [] := fun h0 h1 => enc_ne hscal (fun e => by have := congrArg List.length e; simp at this; omega)
  have hbx : Bytes (enc ((t.drop p).take s)) := enc_bytes hscal
  have hbl : (enc ((t.drop p).take s)).length ≤ 28 := by
    have := enc_len ((t.drop p).take s)
    have h2 : ((t.drop p).take s).length ≤ 7 := by simp; omega
    omega
  intro m
  induction m using Nat.strongRecOn with
  | _ m ih =>
  intro j hj hle
  have hlj := sLeft_ok t (p + j) 1 (by omega) (by omega)
  have hpj := sPeek_ok t (p + j) 0 (by omega) (by omega)
  rw [Nat.add_zero] at hpj
  refine token_scanner_hexO_l0 ?_
  unfold token_scanner_hexO_R0
  refine ⟨_, _, _, hlj, fun hl => ?in_, fun hl => ?out⟩
  case' in_ =>
    have hl' : p + j + 1 ≤ t.length := of_decide_eq_true hl
    refine ⟨_, _, _, hpj, ?_⟩
    simp only [bne_t, bne_f, dec_t, dec_f]
    rw [pkL_lt (by omega), w64 (n := ((p + j : Nat) : Int) - (p : Int)) (by omega) (by omega)]
    refine ⟨fun h59 => ⟨fun h7 => ?nx, fun h7 => ?o1⟩, fun h59 => ?o2⟩
    case' nx =>
      rw [w64 (by omega) (by omega)]
      have hlt : j < s := by
        rcases s2 with s2 | s2 | s2
        · omega
        · omega
        · rw [rd_dropN] at s2
          by_cases he : j = s
          · subst he; exact absurd s2 h59
          · omega
      exact ih (t.length - (p + (j + 1))) (by omega) (j + 1) rfl (by omega)
  all_goals
    have hjs : j = s := by
      by_cases he : j = s
      · exact he
      · first
        | omega
        | (have := s1 j (by omega); rw [rd_dropN] at this; exact absurd h59 this)
        | (have := of_decide_eq_false hl; omega)
    clear ih
    subst hjs
    refine ⟨_, _, _, hpj, ?_⟩
    simp only [bne_t, bne_f, beq_t, beq_f]
    refine ⟨fun a => ?_, fun a => ⟨fun b => ?_, fun b => ?_⟩⟩
    · rw [if_neg (fun h => a h.1), if_neg a] at hR
      exact hR _ (Wk.refl _)
    · have h0 : j = 0 := by omega
      rw [if_neg (fun h => h.2 h0), if_pos a] at hR
      rw [h0, List.take_zero, show enc [] = [] from rfl, hexV_nil] at hR
      rw [h0]
      exact hR _ (Wk.refl _)
    · have h0 : j ≠ 0 := by omega
      have hpt : p + j ≤ t.length := by omega
      rw [if_pos ⟨a, h0⟩, if_pos a] at hR
      rw [ints_len, Int.toNat_natCast, Int.toNat_natCast, ints_take, ints_drop]
      have e1 : (t.take (p + j)).drop p = (t.drop p).take j := by rw [List.drop_take]; congr 1; omega
      rw [e1]
      have hN := uNamed_ok (120 :: enc ((t.drop p).take j)) (by
        intro x hx
        rcases List.mem_cons.1 hx with rfl | hx
        · omega
        · exact hbx x hx) (by rw [List.length_cons]; omega)
      rw [namedV_x hbx (hne h0 hpt), ← x_of] at hN
      have sc := hexV_scal (enc ((t.drop p).take j))
      refine ⟨⟨by omega, by omega, by omega⟩, _, _, uEncode_ok _ hscal (by simp; omega), _, enc_map _, ?_, _, _, hN, ?_⟩
      · rw [size_of, show (ByteArray.mk #[120]).size = 1 from rfl]; omega
      · simp only [not_t, not_f, dec_t, dec_f]
        rw [w64 (by omega) (by omega)]
        refine ⟨fun hv => ?_, fun hv => ?_⟩
        · have : hexV (enc ((t.drop p).take j)) = -1 := by
            rcases sc with sc | sc
            · exact sc
            · have := (scal_in sc).1; omega
          rw [this] at hR
          exact hR _ (Wk.refl _)
        · rw [if_pos hv]
          exact hR _ (Wk.refl _)
theorem sHex_ok (t : List Int) (hs : Scals t) (hlen : t.length ≤ 100000000) (p : Nat) (hp : p ≤ t.length) : Fn Tryd.prog 76 [scP] (scM t p) (fzI .i64 (hxV (t.drop p))) (scM t (p + hxQ (t.drop p))) := by
  refine token_scanner_hexO_fn _ _ ?_
  obtain ⟨R, hR, hRe⟩ := exW (fzI .i64 (hxV (t.drop p))) (scM t (p + hxQ (t.drop p))); rw [hRe]; clear hRe
  unfold token_scanner_hexO_H
  exact sHex_loop t hs hlen p hp R hR _ 0 rfl (Nat.zero_le _)
def esQ (r : List Int) : Nat := if pkL r 0 = 120 then 1 + hxQ (r.drop 1) else 1
theorem escV_hex {r : List Int} (h : pkL r 0 = 120) : (escV r).1 = hxV (r.drop 1) ∧ (0 ≤ hxV (r.drop 1) → (escV r).2 = 1 + hxQ (r.drop 1)) := by
  unfold escV hxV hxQ
  simp only [h]
  rw [if_neg (by omega), if_neg (by omega), if_neg (by omega), if_neg (by omega), if_neg (by omega), if_pos trivial]
  by_cases h59 : pkL (r.drop 1) (semN 7 (r.drop 1)) = 59
  · rw [if_pos h59, if_pos h59]
    refine ⟨rfl, fun h0 => ?_⟩
    by_cases hz : semN 7 (r.drop 1) = 0
    · rw [hz, List.take_zero, show enc [] = [] from rfl, hexV_nil] at h0; omega
    · rw [if_pos ⟨h59, hz⟩]; simp only; omega
  · rw [if_neg h59, if_neg h59]
    exact ⟨rfl, fun h0 => by omega⟩
theorem sEscape_ok (t : List Int) (hs : Scals t) (hlen : t.length ≤ 100000000) (p : Nat) (hp : p ≤ t.length) :
    Fn Tryd.prog 63 [scP] (scM t p) (fzI .i64 (escV (t.drop p)).1) (scM t (p + esQ (t.drop p))) := by
  refine token_scanner_escapeO_fn _ _ ?_
  obtain ⟨R, hR, hRe⟩ := exW (fzI .i64 (escV (t.drop p)).1) (scM t (p + esQ (t.drop p))); rw [hRe]; clear hRe
  unfold token_scanner_escapeO_H
  have hpj := sPeek_ok t p 0 (by omega) (by omega)
  have hk : pkL (t.drop p) 0 = pkL t (p + 0) := pkL_drop _ _ _
  refine ⟨_, _, _, hpj, ?_⟩
  rw [← hk, w64 (by omega) (by omega)]
  simp only [beq_t, beq_f]
  have one : pkL (t.drop p) 0 ≠ 120 → ∀ v, (escV (t.drop p)).1 = v → R (fzI .i64 v) (scM t (p + 1)) := fun hx v hv => by
    unfold esQ at hR
    rw [if_neg hx, hv] at hR
    exact hR _ (Wk.refl _)
  refine ⟨fun c => one (by omega) _ ?_, fun c1 => ⟨fun c => one (by omega) _ ?_, fun c2 => ⟨fun c => one (by omega) _ ?_, fun c3 => ⟨fun c => one (by omega) _ ?_, fun c4 => ⟨fun c => one (by omega) _ ?_, fun c5 => ⟨fun c => ?_, fun c6 => one c6 _ ?_⟩⟩⟩⟩⟩⟩
  · unfold escV; simp only [c]; rfl
  · unfold escV; simp only [c]; rfl
  · unfold escV; simp only [c]; rfl
  · unfold escV; simp only [c]; rfl
  · unfold escV; simp only [c]; rfl
  · have hpt : p + 1 ≤ t.length := by
      rw [hk] at c
      unfold pkL at c
      split at c <;> omega
    obtain ⟨e1, e2⟩ := escV_hex c
    have hx := sHex_ok t hs hlen (p + 1) hpt
    rw [List.drop_drop] at e1 e2
    unfold esQ at hR
    rw [if_pos c, List.drop_drop, e1, show p + (1 + hxQ (t.drop (p + 1))) = p + 1 + hxQ (t.drop (p + 1)) by omega] at hR
    exact ⟨_, _, _, hx, hR _ (Wk.refl _)⟩
  · unfold escV
    simp only
    rw [if_neg c1, if_neg c3, if_neg c2, if_neg c4, if_neg c5, if_neg c6]
theorem escV_pos {r : List Int} (h : 0 ≤ (escV r).1) : esQ r = (escV r).2 ∧ scalB (escV r).1 = true ∧ (escV r).2 ≤ r.length := by
  by_cases c : pkL r 0 = 120
  · obtain ⟨e1, e2⟩ := escV_hex c
    rw [e1] at h ⊢
    refine ⟨by unfold esQ; rw [if_pos c, e2 h], ?_, ?_⟩
    · unfold hxV at h ⊢
      split at h
      · rename_i h59
        rw [if_pos h59]
        rcases hexV_scal (enc ((r.drop 1).take (semN 7 (r.drop 1)))) with sc | sc
        · omega
        · exact sc
      · omega
    · rw [e2 h]
      have l2 := (semN_le 7 (r.drop 1)).2
      have l3 : (r.drop 1).length = r.length - 1 := List.length_drop
      have hr : 1 ≤ r.length := by
        unfold pkL at c
        split at c <;> omega
      unfold hxQ
      split
      · rename_i h59
        have := h59.1
        unfold pkL at this
        split at this <;> omega
      · omega
  · have hn : r.length ≠ 0 := fun e => by
      unfold escV at h
      rw [pkL_ge (by omega)] at h
      simp at h
    unfold esQ
    rw [if_neg c]
    unfold escV at h ⊢
    simp only at h ⊢
    revert h
    repeat' split
    all_goals first
      | (intro _; refine ⟨rfl, by decide, ?_⟩; simp only; omega)
      | (intro h; exact absurd h (by decide))
      | (rename_i h1 _; exact absurd h1 c)
      | (rename_i h1; exact absurd h1 c)
      | (intro _; exact absurd (by assumption) c)
def stV (p : Option (List Int × Nat)) : List Int := match p with | some (a, _) => a | none => []
abbrev stT (p : Option (List Int × Nat)) : TV := match p with
  | some (a, _) => .tup [(false, [.fz (.str (bytesOf (enc a)))]), (false, [.fz (.bool (decide (a.length ≤ 4096)))])]
  | none => .tup [(false, [.fz (.str (bytesOf []))]), (false, [.fz (.bool false)])]
def strP : Nat → List Int → Nat → Nat
  | 0, _, k => k
  | _ + 1, [], k => k
  | f + 1, c :: r, k => if c = 34 then k + 1 else if c ≠ 92 then strP f r (k + 1) else if (escV r).1 < 0 then k + 1 + esQ r else strP f (r.drop (escV r).2) (k + 1 + (escV r).2)
theorem strP_some : ∀ (f : Nat) (r acc : List Int) (k : Nat) (a : List Int) (e : Nat), strF f r acc k = some (a, e) → strP f r k = e
  | 0, r, acc, k, a, e, h => by unfold strF at h; cases h
  | f + 1, [], acc, k, a, e, h => by unfold strF at h; cases h
  | f + 1, c :: r, acc, k, a, e, h => by
    unfold strF at h
    unfold strP
    split
    · rename_i hc
      rw [if_pos hc] at h; cases h; rfl
    · rename_i hc
      rw [if_neg hc] at h
      split
      · rename_i hc2
        rw [if_pos hc2] at h
        exact strP_some f r _ _ a e h
      · rename_i hc2
        rw [if_neg hc2] at h
        split
        · rename_i hc3
          rw [if_pos hc3] at h; cases h
        · rename_i hc3
          rw [if_neg hc3] at h
          exact strP_some f _ _ _ a e h
theorem sStr_loop (t : List Int) (hs : Scals t) (hlen : t.length ≤ 100000000) (R : TV → List Ob → Prop) : ∀ (f q : Nat) (acc : List Int), t.length - q < f → q ≤ t.length → acc.length ≤ q → Scals acc →
    (∀ h', Wk h' (scM t (strP f (t.drop q) q)) → R (stT (strF f (t.drop q) acc q)) h') → token_scanner_strO_L0 R (ints .i64 t) q (ints .i64 acc) := by
  intro f
  induction f with
  | zero => intro q acc hf; omega
  | succ f ih =>
    intro q acc hf hle hacc hsa hR
    have hl := sLeft_ok t q 1 (by omega) (by omega)
    have hp := sPeek_ok t q 0 (by omega) (by omega)
    refine token_scanner_strO_l0 ?_
    unfold token_scanner_strO_R0
    refine ⟨_, _, _, hl, fun h1 => ?_, fun h1 => ?_⟩
    · have hlt : q < t.length := of_decide_eq_true h1
      rw [Nat.add_zero, pkL_lt hlt] at hp
      rw [drop_rd' t q hlt] at hR
      unfold strF strP at hR
      have e : IntKind.wrap .i64 ((q : Int) + 1) = ((q + 1 : Nat) : Int) := w64 (by omega) (by omega)
      refine ⟨_, _, _, hp, ?_⟩
      simp only [beq_t, beq_f, dec_t, dec_f, e, ints_len]
      refine ⟨fun c34 => ?_, fun c34 => ⟨fun c92 => ?_, fun c92 => ?_⟩⟩
      · rw [if_pos c34, if_pos c34] at hR
        refine ⟨_, _, uEncode_ok acc hsa (by omega), _, enc_map _, ?_⟩
        have hx := hR _ (Wk.refl _)
        unfold stT at hx
        simp only at hx
        have e2 : decide ((acc.length : Int) ≤ 4096) = decide (acc.length ≤ 4096) := by rw [decide_eq_decide]; omega
        rw [e2]
        exact hx
      · have n92 : ¬ (rd t q ≠ 92) := fun h => h c92
        rw [if_neg c34, if_neg c34, if_neg n92, if_neg n92] at hR
        have hE := sEscape_ok t hs hlen (q + 1) (by omega)
        refine ⟨_, _, _, hE, fun hv => ?_, fun hv => ?_⟩
        · rw [if_pos hv, if_pos hv] at hR
          exact hR _ (Wk.refl _)
        · rw [if_neg hv, if_neg hv] at hR
          obtain ⟨g1, g2, g3⟩ := escV_pos (r := t.drop (q + 1)) (by omega)
          rw [List.length_drop] at g3
          rw [g1, ints_snoc]
          rw [List.drop_drop] at hR
          exact ⟨by simp only [List.length_cons, List.length_nil]; omega, ih (q + 1 + (escV (t.drop (q + 1))).2) (acc ++ [(escV (t.drop (q + 1))).1]) (by omega) (by omega) (by simp; omega) (by
            intro c hc
            rcases List.mem_append.1 hc with hc | hc
            · exact hsa c hc
            · simp at hc; rw [hc]; exact g2) hR⟩
      · rw [if_neg c34, if_neg c34, if_pos c92, if_pos c92] at hR
        rw [ints_snoc]
        exact ⟨by simp only [List.length_cons, List.length_nil]; omega, ih (q + 1) (acc ++ [rd t q]) (by omega) (by omega) (by simp; omega) (by
            intro c hc
            rcases List.mem_append.1 hc with hc | hc
            · exact hsa c hc
            · simp at hc; rw [hc]; exact hs.rd hlt) hR⟩
    · have hge : t.length ≤ q := by have := of_decide_eq_false h1; omega
      rw [List.drop_eq_nil_of_le hge] at hR
      exact hR _ (Wk.refl _)
theorem sStr_ok (t : List Int) (hs : Scals t) (hlen : t.length ≤ 100000000) (p : Nat) (hp : p ≤ t.length) :
    Fn Tryd.prog 46 [scP] (scM t p) (stT (strF (t.length + 1) (t.drop p) [] p)) (scM t (strP (t.length + 1) (t.drop p) p)) := by
  refine token_scanner_strO_fn _ _ ?_
  obtain ⟨R, hR, hRe⟩ := exW (stT (strF (t.length + 1) (t.drop p) [] p)) (scM t (strP (t.length + 1) (t.drop p) p)); rw [hRe]; clear hRe
  unfold token_scanner_strO_H
  exact sStr_loop t hs hlen R (t.length + 1) p [] (by omega) hp (by simp) (by intro c hc; cases hc) hR
theorem ch1_scal {l : List Int} (hl : Bytes l) (hne : l ≠ []) (h : (ch1 l).2 ≠ 0) : scalB (ch1 l).1 = true := by
  have b0 := rd_byte hl 0
  revert h
  unfold ch1 chN scalB
  repeat' split
  all_goals first | (intro h; exact absurd rfl h) | (intro _; simp; omega)
theorem namedV_scal {T : List Int} (hT : Bytes T) : namedV T < 0 ∨ scalB (namedV T) = true := by
  unfold namedV
  by_cases h0 : T = [115, 112, 97, 99, 101]
  · rw [if_pos h0]; exact .inr (by decide)
  rw [if_neg h0]
  by_cases h1 : T = [110, 101, 119, 108, 105, 110, 101]
  · rw [if_pos h1]; exact .inr (by decide)
  rw [if_neg h1]
  by_cases h2 : T = [116, 97, 98]
  · rw [if_pos h2]; exact .inr (by decide)
  rw [if_neg h2]
  by_cases h3 : T = [114, 101, 116, 117, 114, 110]
  · rw [if_pos h3]; exact .inr (by decide)
  rw [if_neg h3]
  by_cases h4 : T = [110, 117, 108, 108]
  · rw [if_pos h4]; exact .inr (by decide)
  rw [if_neg h4]
  by_cases h5 : T = [100, 101, 108, 101, 116, 101]
  · rw [if_pos h5]; exact .inr (by decide)
  rw [if_neg h5]
  split
  · rename_i h
    have h1 := (chars_one hT).1 h
    obtain ⟨q1, q2⟩ := namedV_one hT h1
    rw [q1]
    unfold oneB at h1
    rw [decide_eq_true_eq] at h1
    right
    exact ch1_scal hT h1.1 (by rw [h1.2]; have : T.length ≠ 0 := fun e => h1.1 (List.length_eq_zero_iff.1 e); omega)
  · split
    · rcases hexV_scal (T.drop 1) with h | h
      · left; omega
      · exact .inr h
    · left; omega
def chN_ (r : List Int) : Nat := 1 + untilN (r.drop 1)
def chB (r : List Int) : List Int := enc (r.take (chN_ r))
def chV (r : List Int) : Int := if r = [] then -1 else namedV (chB r)
def chQ (r : List Int) : Nat := if r = [] then 0 else chN_ r
def chX (r : List Int) : List Int := if r = [] then [] else utfB (if 0 ≤ chV r then chV r else 0)
theorem sChar_ok (t : List Int) (hs : Scals t) (hlen : t.length ≤ 4000000) (p : Nat) (hp : p ≤ t.length) :
    Fn Tryd.prog 47 [scP] (scM t p) (.tup [(false, [.fz (.str (bytesOf (chX (t.drop p))))]), (false, [.fz (.bool (decide (0 ≤ chV (t.drop p))))])]) (scM t (p + chQ (t.drop p))) := by
  refine token_scanner_charO_fn _ _ ?_
  obtain ⟨R, hR, hRe⟩ := exW (.tup [(false, [.fz (.str (bytesOf (chX (t.drop p))))]), (false, [.fz (.bool (decide (0 ≤ chV (t.drop p))))])]) (scM t (p + chQ (t.drop p))); rw [hRe]; clear hRe
  unfold token_scanner_charO_H
  refine ⟨_, _, _, sLeft_ok t p 1 (by omega) (by omega), ?_⟩
  simp only [not_t, not_f, decide_eq_true_eq, decide_eq_false_iff_not]
  refine ⟨fun h => ?_, fun h => ?_⟩
  · have hd : t.drop p = [] := List.drop_eq_nil_of_le (by omega)
    rw [hd] at hR
    exact hR _ (Wk.refl _)
  · have hd : t.drop p ≠ [] := fun e => by have := congrArg List.length e; simp at this; omega
    have hW := sWhile_ok t hs (by omega) p 1 h
    have e1 : 1 + untilN (t.drop (p + 1)) = chN_ (t.drop p) := by unfold chN_; rw [List.drop_drop]
    have hun := untilN_le (t.drop (p + 1))
    rw [List.length_drop] at hun
    have hbB : Bytes (chB (t.drop p)) := enc_bytes ((hs.drop p).take _)
    have hbl : (chB (t.drop p)).length ≤ 16777216 := by
      have := enc_len ((t.drop p).take (chN_ (t.drop p)))
      unfold chB
      simp only [List.length_take, List.length_drop] at this
      omega
    rw [e1, show p + 1 + untilN (t.drop (p + 1)) = p + chN_ (t.drop p) by omega] at hW
    have hN := uNamed_ok (chB (t.drop p)) hbB hbl
    have hsc := namedV_scal hbB
    unfold chX chV chQ at hR
    rw [if_neg hd, if_neg hd, if_neg hd] at hR
    refine ⟨_, _, _, hW, _, _, hN, ?_⟩
    generalize namedV (chB (t.drop p)) = v at *
    have hE := uEncode_ok [if 0 ≤ v then v else 0] (by
      intro c hc
      simp at hc
      rw [hc]
      split
      · rcases hsc with hsc | hsc
        · omega
        · exact hsc
      · decide) (by simp)
    refine ⟨_, _, hE, _, enc_map _, ?_⟩
    rw [show enc [if 0 ≤ v then v else 0] = utfB (if 0 ≤ v then v else 0) by simp [enc]]
    exact hR _ (Wk.refl _)
end Go.Proofs.YtejefchehdifhaaDoor.Ev
end
section
set_option linter.unusedVariables false
set_option maxRecDepth 100000
namespace Go.Proofs.YtejefchehdifhaaDoor.Ev
open Go
def token_scanner_nextO_lv : List Nat → Keep := lvOf [([0, 1, 0, 1, 1], ⟨12301, 0, [], false, false⟩)]
def token_scanner_nextO_S0 (p : Int) (i : Int) (o : List (List FV)) (o1 : Int) : St := (St.mk [(TV.one (AV.ptr 0 0 0 59)), TV.und, (TV.one (AV.ptr 1 0 0 0)), (TV.one (AV.fz (FV.int .i64 p))), TV.und, TV.und, TV.und, TV.und, TV.und, TV.und, TV.und, TV.und, (TV.agg [(AV.fz (FV.str (ByteArray.mk #[35, 44, 64]))), (AV.fz (FV.int .i64 6)), (AV.fz (FV.str (ByteArray.mk #[117, 110, 115, 121, 110, 116, 97, 120, 45, 115, 112, 108, 105, 99, 105, 110, 103]))), (AV.fz (FV.str (ByteArray.mk #[35, 40]))), (AV.fz (FV.int .i64 3)), (AV.fz (FV.str (ByteArray.mk #[]))), (AV.fz (FV.str (ByteArray.mk #[35, 59]))), (AV.fz (FV.int .i64 5)), (AV.fz (FV.str (ByteArray.mk #[]))), (AV.fz (FV.str (ByteArray.mk #[35, 39]))), (AV.fz (FV.int .i64 6)), (AV.fz (FV.str (ByteArray.mk #[115, 121, 110, 116, 97, 120]))), (AV.fz (FV.str (ByteArray.mk #[35, 96]))), (AV.fz (FV.int .i64 6)), (AV.fz (FV.str (ByteArray.mk #[113, 117, 97, 115, 105, 115, 121, 110, 116, 97, 120]))), (AV.fz (FV.str (ByteArray.mk #[35, 44]))), (AV.fz (FV.int .i64 6)), (AV.fz (FV.str (ByteArray.mk #[117, 110, 115, 121, 110, 116, 97, 120]))), (AV.fz (FV.str (ByteArray.mk #[44, 64]))), (AV.fz (FV.int .i64 6)), (AV.fz (FV.str (ByteArray.mk #[117, 110, 113, 117, 111, 116, 101, 45, 115, 112, 108, 105, 99, 105, 110, 103]))), (AV.fz (FV.str (ByteArray.mk #[40]))), (AV.fz (FV.int .i64 1)), (AV.fz (FV.str (ByteArray.mk #[]))), (AV.fz (FV.str (ByteArray.mk #[41]))), (AV.fz (FV.int .i64 2)), (AV.fz (FV.str (ByteArray.mk #[]))), (AV.fz (FV.str (ByteArray.mk #[39]))), (AV.fz (FV.int .i64 6)), (AV.fz (FV.str (ByteArray.mk #[113, 117, 111, 116, 101]))), (AV.fz (FV.str (ByteArray.mk #[96]))), (AV.fz (FV.int .i64 6)), (AV.fz (FV.str (ByteArray.mk #[113, 117, 97, 115, 105, 113, 117, 111, 116, 101]))), (AV.fz (FV.str (ByteArray.mk #[44]))), (AV.fz (FV.int .i64 6)), (AV.fz (FV.str (ByteArray.mk #[117, 110, 113, 117, 111, 116, 101])))]), (TV.one (AV.fz (FV.int .i64 i))), TV.und, TV.und, TV.und, TV.und, TV.und, TV.und, TV.und, TV.und, TV.und, TV.und, TV.und, TV.und, TV.und, TV.und, TV.und, TV.und, TV.und, TV.und, TV.und, TV.und, TV.und, TV.und, TV.und, TV.und, TV.und, TV.und, TV.und, TV.und, TV.und, TV.und, TV.und, TV.und, TV.und, TV.und, TV.und, TV.und, TV.und, TV.und, TV.und, TV.und, TV.und, TV.und, TV.und, TV.und, TV.und, TV.und, TV.und, TV.und, TV.und, TV.und, TV.und, TV.und, TV.und, TV.und, TV.und, TV.und, TV.und, TV.und, TV.und, TV.und] [(Ob.g 59 [(AV.fz (FV.sl 1 o)), (AV.fz (FV.int .i64 o1))]), (Ob.g 36 [(AV.fz (FV.int .i64 0)), (AV.fz (FV.str (ByteArray.mk #[]))), (AV.fz (FV.int .i64 0)), (AV.fz (FV.str (ByteArray.mk #[]))), (AV.fz (FV.bool false)), (AV.ofl 1 2), (AV.ofl 6 3), (AV.fz (FV.int .i64 0)), (AV.fz (FV.int .i64 0))]), (Ob.f 0 1 ([] : List (List FV))), (Ob.f 0 6 ([] : List (List FV)))])
def token_scanner_nextO_L0 (R : TV → List Ob → Prop) (RX : FV → List Ob → Prop) (p : Int) (i : Int) (o : List (List FV)) (o1 : Int) : Prop := LoopAt Tryd.prog (modeX [] [(22, [(Sig.mk 1 [(false, [(AT.k CK.bool)])] [(OT.g 59 [(AT.k (CK.sl 1)), (AT.k (CK.int .i64))])] 0)]), (34, [(Sig.mk 1 [(false, [(AT.k (CK.int .i64))])] [(OT.g 59 [(AT.k (CK.sl 1)), (AT.k (CK.int .i64))])] 0)]), (36, [(Sig.mk 1 [(false, [(AT.k CK.bool)])] [(OT.g 59 [(AT.k (CK.sl 1)), (AT.k (CK.int .i64))])] 0)]), (37, [(Sig.mk 1 [(true, [(AT.k (CK.int .i64)), (AT.k CK.str), (AT.k CK.bool), (AT.k (CK.sl 1)), (AT.k (CK.sl 6)), (AT.k (CK.int .i64))]), (false, [(AT.k CK.bool)])] [(OT.g 59 [(AT.k (CK.sl 1)), (AT.k (CK.int .i64))])] 0)])] [] 1 RX) token_scanner_nextO_lv Tryd.f23 (some 1) R [1, 1, 0, 1, 0] (token_scanner_nextO_S0 p i o o1)
def token_scanner_nextO_R0 (R : TV → List Ob → Prop) (RX : FV → List Ob → Prop) (p : Int) (i : Int) (o : List (List FV)) (o1 : Int) : Prop :=
  ((((decide (i < 12)) = true) → ((((0 : Int) ≤ i) ∧ (i < 12)) ∧ (∃ s8 : ByteArray, (∃ n26 : Int, (∃ s9 : ByteArray, ((cutT [(AV.fz (FV.str (ByteArray.mk #[35, 44, 64]))), (AV.fz (FV.int .i64 6)), (AV.fz (FV.str (ByteArray.mk #[117, 110, 115, 121, 110, 116, 97, 120, 45, 115, 112, 108, 105, 99, 105, 110, 103]))), (AV.fz (FV.str (ByteArray.mk #[35, 40]))), (AV.fz (FV.int .i64 3)), (AV.fz (FV.str (ByteArray.mk #[]))), (AV.fz (FV.str (ByteArray.mk #[35, 59]))), (AV.fz (FV.int .i64 5)), (AV.fz (FV.str (ByteArray.mk #[]))), (AV.fz (FV.str (ByteArray.mk #[35, 39]))), (AV.fz (FV.int .i64 6)), (AV.fz (FV.str (ByteArray.mk #[115, 121, 110, 116, 97, 120]))), (AV.fz (FV.str (ByteArray.mk #[35, 96]))), (AV.fz (FV.int .i64 6)), (AV.fz (FV.str (ByteArray.mk #[113, 117, 97, 115, 105, 115, 121, 110, 116, 97, 120]))), (AV.fz (FV.str (ByteArray.mk #[35, 44]))), (AV.fz (FV.int .i64 6)), (AV.fz (FV.str (ByteArray.mk #[117, 110, 115, 121, 110, 116, 97, 120]))), (AV.fz (FV.str (ByteArray.mk #[44, 64]))), (AV.fz (FV.int .i64 6)), (AV.fz (FV.str (ByteArray.mk #[117, 110, 113, 117, 111, 116, 101, 45, 115, 112, 108, 105, 99, 105, 110, 103]))), (AV.fz (FV.str (ByteArray.mk #[40]))), (AV.fz (FV.int .i64 1)), (AV.fz (FV.str (ByteArray.mk #[]))), (AV.fz (FV.str (ByteArray.mk #[41]))), (AV.fz (FV.int .i64 2)), (AV.fz (FV.str (ByteArray.mk #[]))), (AV.fz (FV.str (ByteArray.mk #[39]))), (AV.fz (FV.int .i64 6)), (AV.fz (FV.str (ByteArray.mk #[113, 117, 111, 116, 101]))), (AV.fz (FV.str (ByteArray.mk #[96]))), (AV.fz (FV.int .i64 6)), (AV.fz (FV.str (ByteArray.mk #[113, 117, 97, 115, 105, 113, 117, 111, 116, 101]))), (AV.fz (FV.str (ByteArray.mk #[44]))), (AV.fz (FV.int .i64 6)), (AV.fz (FV.str (ByteArray.mk #[117, 110, 113, 117, 111, 116, 101])))] ((Int.toNat i) * 3) 3 [(FV.str s8), (FV.int .i64 n26), (FV.str s9)]) ∧ (∃ es20 : List (List FV), (∃ n27 : Int, (∃ b14 : Bool, ((Fn Tryd.prog 36 [(TV.one (AV.ptr 0 0 0 59)), (TV.one (AV.fz (FV.str s8)))] [(Ob.g 59 [(AV.fz (FV.sl 1 o)), (AV.fz (FV.int .i64 o1))])] (TV.one (AV.fz (FV.bool b14))) [(Ob.g 59 [(AV.fz (FV.sl 1 es20)), (AV.fz (FV.int .i64 n27))])]) ∧ (((b14 = true) → (R (TV.agg [(AV.fz (FV.int .i64 n26)), (AV.fz (FV.str s9)), (AV.fz (FV.int .i64 0)), (AV.fz (FV.str (ByteArray.mk #[]))), (AV.fz (FV.bool false)), (AV.ofl 1 1), (AV.ofl 6 2), (AV.fz (FV.int .i64 0)), (AV.fz (FV.int .i64 p))]) [(Ob.g 59 [(AV.fz (FV.sl 1 es20)), (AV.fz (FV.int .i64 (IntKind.wrap .i64 (n27 + (((ByteArray.size s8) : Nat) : Int)))))]), (Ob.f 0 1 ([] : List (List FV))), (Ob.f 0 6 ([] : List (List FV)))])) ∧ ((b14 = false) → (token_scanner_nextO_L0 R RX p (IntKind.wrap .i64 (i + 1)) es20 n27))))))))))))) ∧ (((decide (i < 12)) = false) → (∃ es21 : List (List FV), (∃ n28 : Int, (∃ n29 : Int, ((Fn Tryd.prog 34 [(TV.one (AV.ptr 0 0 0 59)), (TV.one (AV.fz (FV.int .i64 0)))] [(Ob.g 59 [(AV.fz (FV.sl 1 o)), (AV.fz (FV.int .i64 o1))])] (TV.one (AV.fz (FV.int .i64 n29))) [(Ob.g 59 [(AV.fz (FV.sl 1 es21)), (AV.fz (FV.int .i64 n28))])]) ∧ ((((n29 == 46) = true) → (∃ es22 : List (List FV), (∃ n30 : Int, (∃ b15 : Bool, ((Fn Tryd.prog 22 [(TV.one (AV.ptr 0 0 0 59)), (TV.one (AV.fz (FV.int .i64 2)))] [(Ob.g 59 [(AV.fz (FV.sl 1 es21)), (AV.fz (FV.int .i64 n28))])] (TV.one (AV.fz (FV.bool b15))) [(Ob.g 59 [(AV.fz (FV.sl 1 es22)), (AV.fz (FV.int .i64 n30))])]) ∧ ((((Bool.not b15) = true) → (R (TV.agg [(AV.fz (FV.int .i64 4)), (AV.fz (FV.str (ByteArray.mk #[]))), (AV.fz (FV.int .i64 0)), (AV.fz (FV.str (ByteArray.mk #[]))), (AV.fz (FV.bool false)), (AV.ofl 1 1), (AV.ofl 6 2), (AV.fz (FV.int .i64 0)), (AV.fz (FV.int .i64 p))]) [(Ob.g 59 [(AV.fz (FV.sl 1 es22)), (AV.fz (FV.int .i64 (IntKind.wrap .i64 (n30 + 1))))]), (Ob.f 0 1 ([] : List (List FV))), (Ob.f 0 6 ([] : List (List FV)))])) ∧ (((Bool.not b15) = false) → (∃ es23 : List (List FV), (∃ n31 : Int, (∃ n32 : Int, ((Fn Tryd.prog 34 [(TV.one (AV.ptr 0 0 0 59)), (TV.one (AV.fz (FV.int .i64 1)))] [(Ob.g 59 [(AV.fz (FV.sl 1 es22)), (AV.fz (FV.int .i64 n30))])] (TV.one (AV.fz (FV.int .i64 n32))) [(Ob.g 59 [(AV.fz (FV.sl 1 es23)), (AV.fz (FV.int .i64 n31))])]) ∧ (∃ b16 : Bool, ((Fn Tryd.prog 31 [(TV.one (AV.fz (FV.int .i64 n32)))] [] (TV.one (AV.fz (FV.bool b16))) []) ∧ (((b16 = true) → (R (TV.agg [(AV.fz (FV.int .i64 4)), (AV.fz (FV.str (ByteArray.mk #[]))), (AV.fz (FV.int .i64 0)), (AV.fz (FV.str (ByteArray.mk #[]))), (AV.fz (FV.bool false)), (AV.ofl 1 1), (AV.ofl 6 2), (AV.fz (FV.int .i64 0)), (AV.fz (FV.int .i64 p))]) [(Ob.g 59 [(AV.fz (FV.sl 1 es23)), (AV.fz (FV.int .i64 (IntKind.wrap .i64 (n31 + 1))))]), (Ob.f 0 1 ([] : List (List FV))), (Ob.f 0 6 ([] : List (List FV)))])) ∧ ((b16 = false) → (∃ es24 : List (List FV), (∃ n33 : Int, (∃ n34 : Int, (∃ s10 : ByteArray, (∃ b17 : Bool, (∃ es25 : List (List FV), (∃ es26 : List (List FV), (∃ n35 : Int, (∃ b18 : Bool, ((Fn Tryd.prog 37 [(TV.one (AV.ptr 0 0 0 59))] [(Ob.g 59 [(AV.fz (FV.sl 1 es23)), (AV.fz (FV.int .i64 n31))])] (TV.tup [(true, [(AV.fz (FV.int .i64 n34)), (AV.fz (FV.str s10)), (AV.fz (FV.bool b17)), (AV.fz (FV.sl 1 es25)), (AV.fz (FV.sl 6 es26)), (AV.fz (FV.int .i64 n35))]), (false, [(AV.fz (FV.bool b18))])]) [(Ob.g 59 [(AV.fz (FV.sl 1 es24)), (AV.fz (FV.int .i64 n33))])]) ∧ ((((Bool.not b18) = true) → (RX (FV.ifv 55 true [(FV.int .i64 p)]) [(Ob.g 59 [AV.und, AV.und])])) ∧ (((Bool.not b18) = false) → (R (TV.agg [(AV.fz (FV.int .i64 7)), (AV.fz (FV.str (ByteArray.mk #[]))), (AV.fz (FV.int .i64 n34)), (AV.fz (FV.str s10)), (AV.fz (FV.bool b17)), (AV.fz (FV.sl 1 es25)), (AV.fz (FV.sl 6 es26)), (AV.fz (FV.int .i64 p)), (AV.fz (FV.int .i64 p))]) [(Ob.g 59 [(AV.fz (FV.sl 1 es24)), (AV.fz (FV.int .i64 n33))])])))))))))))))))))))))))))))) ∧ (((n29 == 46) = false) → (∃ es27 : List (List FV), (∃ n36 : Int, (∃ n37 : Int, (∃ s11 : ByteArray, (∃ b19 : Bool, (∃ es28 : List (List FV), (∃ es29 : List (List FV), (∃ n38 : Int, (∃ b20 : Bool, ((Fn Tryd.prog 37 [(TV.one (AV.ptr 0 0 0 59))] [(Ob.g 59 [(AV.fz (FV.sl 1 es21)), (AV.fz (FV.int .i64 n28))])] (TV.tup [(true, [(AV.fz (FV.int .i64 n37)), (AV.fz (FV.str s11)), (AV.fz (FV.bool b19)), (AV.fz (FV.sl 1 es28)), (AV.fz (FV.sl 6 es29)), (AV.fz (FV.int .i64 n38))]), (false, [(AV.fz (FV.bool b20))])]) [(Ob.g 59 [(AV.fz (FV.sl 1 es27)), (AV.fz (FV.int .i64 n36))])]) ∧ ((((Bool.not b20) = true) → (RX (FV.ifv 55 true [(FV.int .i64 p)]) [(Ob.g 59 [AV.und, AV.und])])) ∧ (((Bool.not b20) = false) → (R (TV.agg [(AV.fz (FV.int .i64 7)), (AV.fz (FV.str (ByteArray.mk #[]))), (AV.fz (FV.int .i64 n37)), (AV.fz (FV.str s11)), (AV.fz (FV.bool b19)), (AV.fz (FV.sl 1 es28)), (AV.fz (FV.sl 6 es29)), (AV.fz (FV.int .i64 p)), (AV.fz (FV.int .i64 p))]) [(Ob.g 59 [(AV.fz (FV.sl 1 es27)), (AV.fz (FV.int .i64 n36))])])))))))))))))))))))))
theorem token_scanner_nextO_l0 {R : TV → List Ob → Prop} {RX : FV → List Ob → Prop} {p : Int} {i : Int} {o : List (List FV)} {o1 : Int} (h : token_scanner_nextO_R0 R RX p i o o1) : token_scanner_nextO_L0 R RX p i o o1 :=
  LoopAt.by_tr (by kernel_rfl) (by kernel_rfl) h
def token_scanner_nextO_H (R : TV → List Ob → Prop) (RX : FV → List Ob → Prop) (tx : List (List FV)) (p : Int) : Prop :=
  (token_scanner_nextO_L0 R RX p 0 tx p)
theorem token_scanner_nextO_fc (tx : List (List FV)) (p : Int) {r : TV} {h : List Ob} (H : token_scanner_nextO_H (fun r' h' => Cool 1 r' h' r h) (fun _ _ => False) tx p) : Fn Tryd.prog 23 [(TV.one (AV.ptr 0 0 0 59))] [(Ob.g 59 [(AV.fz (FV.sl 1 tx)), (AV.fz (FV.int .i64 p))])] r h :=
  Fn.by_trC (M := (modeX [] [(22, [(Sig.mk 1 [(false, [(AT.k CK.bool)])] [(OT.g 59 [(AT.k (CK.sl 1)), (AT.k (CK.int .i64))])] 0)]), (34, [(Sig.mk 1 [(false, [(AT.k (CK.int .i64))])] [(OT.g 59 [(AT.k (CK.sl 1)), (AT.k (CK.int .i64))])] 0)]), (36, [(Sig.mk 1 [(false, [(AT.k CK.bool)])] [(OT.g 59 [(AT.k (CK.sl 1)), (AT.k (CK.int .i64))])] 0)]), (37, [(Sig.mk 1 [(true, [(AT.k (CK.int .i64)), (AT.k CK.str), (AT.k CK.bool), (AT.k (CK.sl 1)), (AT.k (CK.sl 6)), (AT.k (CK.int .i64))]), (false, [(AT.k CK.bool)])] [(OT.g 59 [(AT.k (CK.sl 1)), (AT.k (CK.int .i64))])] 0)])] [] 1 (fun _ _ => False))) (lv := token_scanner_nextO_lv) (own := (some 1)) (F := Tryd.f23) (by kernel_rfl) (by kernel_rfl) (by first | decide | simp) (fun _ _ h => h) (by kernel_rfl) H
theorem token_scanner_nextO_fx (tx : List (List FV)) (p : Int) {x : FV} (H : token_scanner_nextO_H (fun _ _ => False) (fun x' h' => x' = x ∧ h' = shH [(Ob.g 59 [(AV.fz (FV.sl 1 tx)), (AV.fz (FV.int .i64 p))])]) tx p) : FnX Tryd.prog 23 [(TV.one (AV.ptr 0 0 0 59))] [(Ob.g 59 [(AV.fz (FV.sl 1 tx)), (AV.fz (FV.int .i64 p))])] x :=
  FnX.by_tr (M := (modeX [] [(22, [(Sig.mk 1 [(false, [(AT.k CK.bool)])] [(OT.g 59 [(AT.k (CK.sl 1)), (AT.k (CK.int .i64))])] 0)]), (34, [(Sig.mk 1 [(false, [(AT.k (CK.int .i64))])] [(OT.g 59 [(AT.k (CK.sl 1)), (AT.k (CK.int .i64))])] 0)]), (36, [(Sig.mk 1 [(false, [(AT.k CK.bool)])] [(OT.g 59 [(AT.k (CK.sl 1)), (AT.k (CK.int .i64))])] 0)]), (37, [(Sig.mk 1 [(true, [(AT.k (CK.int .i64)), (AT.k CK.str), (AT.k CK.bool), (AT.k (CK.sl 1)), (AT.k (CK.sl 6)), (AT.k (CK.int .i64))]), (false, [(AT.k CK.bool)])] [(OT.g 59 [(AT.k (CK.sl 1)), (AT.k (CK.int .i64))])] 0)])] [] 1 (fun x' h' => x' = x ∧ h' = shH [(Ob.g 59 [(AV.fz (FV.sl 1 tx)), (AV.fz (FV.int .i64 p))])]))) (lv := token_scanner_nextO_lv) (own := (some 1)) (F := Tryd.f23) (by kernel_rfl) (by kernel_rfl) (by first | decide | simp) (fun _ _ h => h) (by kernel_rfl) H
end Go.Proofs.YtejefchehdifhaaDoor.Ev
end
section
set_option linter.unusedVariables false
set_option maxRecDepth 100000
namespace Go.Proofs.YtejefchehdifhaaDoor.Ev
open Go
def scanD0_lv : List Nat → Keep := lvOf []
def scanD0_H (R : TV → List Ob → Prop) (a : Int) (e : Int) (l : List (List FV)) : Prop :=
  ((((Bool.not (Bool.not false)) = true) → False) ∧ (((Bool.not (Bool.not false)) = false) → (R (TV.tup []) [(Ob.g 24 [(AV.ofl 9 3)]), (Ob.g 3 [(AV.fz (FV.int .i64 a))]), (Ob.g 25 [(AV.fz (FV.int .i64 e))]), (Ob.f 0 9 l)])))
theorem scanD0_fn (a : Int) (e : Int) (l : List (List FV)) {h : List Ob} (H : scanD0_H (fun _ h' => Wk h' h) a e l) : FnDf Tryd.prog 20 [(TV.one (AV.ptr 0 0 0 24)), (TV.one (AV.ptr 1 0 0 3)), (TV.one (AV.ptr 2 0 0 25))] [(Ob.g 24 [(AV.ofl 9 3)]), (Ob.g 3 [(AV.fz (FV.int .i64 a))]), (Ob.g 25 [(AV.fz (FV.int .i64 e))]), (Ob.f 0 9 l)] none h :=
  FnDf.by_trR (M := (modeOf [] [])) (lv := scanD0_lv) (own := (some 4)) (F := Tryd.f20) (by kernel_rfl) (by kernel_rfl) (by first | decide | simp) (fun _ _ h => h) (by kernel_rfl) H
def scanDx_lv : List Nat → Keep := lvOf []
def scanDx_H (R : TV → List Ob → Prop) (q : Int) : Prop :=
  ((((Bool.not false) = true) → (R (TV.tup []) [(Ob.g 24 [(AV.nsl 9)]), (Ob.g 3 [(AV.fz (FV.int .i64 q))]), (Ob.g 25 [(AV.fz (FV.int .i64 3))])])) ∧ (((Bool.not false) = false) → (R (TV.tup []) [(Ob.g 24 [AV.und]), (Ob.g 3 [AV.und]), (Ob.g 25 [AV.und])])))
theorem scanDx_fn (q : Int) {h : List Ob} (H : scanDx_H (fun _ h' => Wk h' h) q) : FnDf Tryd.prog 20 [(TV.one (AV.ptr 0 0 0 24)), (TV.one (AV.ptr 1 0 0 3)), (TV.one (AV.ptr 2 0 0 25))] [(Ob.g 24 [AV.und]), (Ob.g 3 [AV.und]), (Ob.g 25 [AV.und])] (some (FV.ifv 55 true [(FV.int .i64 q)])) h :=
  FnDf.by_trR (M := (modeOf [] [])) (lv := scanDx_lv) (own := (some 3)) (F := Tryd.f20) (by kernel_rfl) (by kernel_rfl) (by first | decide | simp) (fun _ _ h => h) (by kernel_rfl) H
def token_Scan_lv : List Nat → Keep := lvOf [([0, 1, 0, 1, 1, 1, 1], ⟨92, 0, [], false, false⟩)]
def token_Scan_S0 (es : List (List FV)) (n1 : Int) (o : List (List FV)) : St := (St.mk [TV.und, TV.und, (TV.one (AV.ptr 0 0 0 0)), (TV.one (AV.ptr 1 0 0 0)), (TV.one (AV.ptr 2 0 0 0)), TV.und, (TV.one (AV.ptr 3 0 0 0)), TV.und, TV.und, TV.und, TV.und, TV.und, TV.und, TV.und, TV.und, TV.und, TV.und, TV.und, TV.und, TV.und, TV.und, TV.und, TV.und, TV.und, TV.und, TV.und, TV.und, TV.und] [(Ob.g 24 [(AV.ofl 9 4)]), (Ob.g 3 [(AV.fz (FV.int .i64 0))]), (Ob.g 25 [(AV.fz (FV.int .i64 0))]), (Ob.g 59 [(AV.fz (FV.sl 1 es)), (AV.fz (FV.int .i64 n1))]), (Ob.f 0 9 o)])
def token_Scan_L0 (R : TV → List Ob → Prop) (RX : FV → List Ob → Prop) (es : List (List FV)) (n1 : Int) (o : List (List FV)) : Prop := LoopAtD Tryd.prog (modeX [] [(22, [(Sig.mk 1 [(false, [(AT.k CK.bool)])] [(OT.g 59 [(AT.k (CK.sl 1)), (AT.k (CK.int .i64))])] 0)]), (21, [(Sig.mk 1 [] [(OT.g 59 [(AT.k (CK.sl 1)), (AT.k (CK.int .i64))])] 0)]), (23, [(Sig.mk 1 [(true, [(AT.k (CK.int .i64)), (AT.k CK.str), (AT.k (CK.int .i64)), (AT.k CK.str), (AT.k CK.bool), (AT.k (CK.sl 1)), (AT.k (CK.sl 6)), (AT.k (CK.int .i64)), (AT.k (CK.int .i64))])] [(OT.g 59 [(AT.k (CK.sl 1)), (AT.k (CK.int .i64))])] 0)]), (20, [(Sig.mk 3 [] [(OT.g 24 [(AT.a (AV.nsl 9))]), (OT.g 3 [(AT.k (CK.int .i64))]), (OT.g 25 [(AT.k (CK.int .i64))])] 0), (Sig.mk 4 [] [(OT.g 24 [(AT.a (AV.ofl 9 3))]), (OT.g 3 [(AT.k (CK.int .i64))]), (OT.g 25 [(AT.k (CK.int .i64))]), (OT.f 0 9)] 0)])] [23] 0 RX) token_Scan_lv Tryd.f8 none R 3 [(20, [(AV.ptr 0 0 0 0), (AV.ptr 1 0 0 0), (AV.ptr 2 0 0 0)])] [1, 1, 1, 1, 0, 1, 0] (token_Scan_S0 es n1 o)
def token_Scan_R0 (R : TV → List Ob → Prop) (RX : FV → List Ob → Prop) (es : List (List FV)) (n1 : Int) (o : List (List FV)) : Prop :=
  (∃ es13 : List (List FV), (∃ n24 : Int, (∃ b4 : Bool, ((Fn Tryd.prog 22 [(TV.one (AV.ptr 0 0 0 0)), (TV.one (AV.fz (FV.int .i64 1)))] [(Ob.g 59 [(AV.fz (FV.sl 1 es)), (AV.fz (FV.int .i64 n1))])] (TV.one (AV.fz (FV.bool b4))) [(Ob.g 59 [(AV.fz (FV.sl 1 es13)), (AV.fz (FV.int .i64 n24))])]) ∧ (((b4 = true) → ((∃ v2 : FV, ((FnX Tryd.prog 23 [(TV.one (AV.ptr 0 0 0 0))] [(Ob.g 59 [(AV.fz (FV.sl 1 es13)), (AV.fz (FV.int .i64 n24))])] v2) ∧ (∃ n25 : Int, (∃ n26 : Int, ((FnDf Tryd.prog 20 [(TV.one (AV.ptr 0 0 0 0)), (TV.one (AV.ptr 1 0 0 0)), (TV.one (AV.ptr 2 0 0 0))] [(Ob.g 24 [AV.und]), (Ob.g 3 [AV.und]), (Ob.g 25 [AV.und])] (some v2) [(Ob.g 24 [(AV.nsl 9)]), (Ob.g 3 [(AV.fz (FV.int .i64 n25))]), (Ob.g 25 [(AV.fz (FV.int .i64 n26))])]) ∧ (R (TV.tup [(false, [(AV.fz (FV.sl 9 ([] : List (List FV))))]), (false, [(AV.fz (FV.int .i64 n25))]), (false, [(AV.fz (FV.int .i64 n26))])]) [])))))) ∨ (∃ es14 : List (List FV), (∃ n27 : Int, (∃ n28 : Int, (∃ s4 : ByteArray, (∃ n29 : Int, (∃ s5 : ByteArray, (∃ b5 : Bool, (∃ es15 : List (List FV), (∃ es16 : List (List FV), (∃ n30 : Int, (∃ n31 : Int, ((Fn Tryd.prog 23 [(TV.one (AV.ptr 0 0 0 0))] [(Ob.g 59 [(AV.fz (FV.sl 1 es13)), (AV.fz (FV.int .i64 n24))])] (TV.agg [(AV.fz (FV.int .i64 n28)), (AV.fz (FV.str s4)), (AV.fz (FV.int .i64 n29)), (AV.fz (FV.str s5)), (AV.fz (FV.bool b5)), (AV.fz (FV.sl 1 es15)), (AV.fz (FV.sl 6 es16)), (AV.fz (FV.int .i64 n30)), (AV.fz (FV.int .i64 n31))]) [(Ob.g 59 [(AV.fz (FV.sl 1 es14)), (AV.fz (FV.int .i64 n27))])]) ∧ (((((List.length o) + (List.length [[(FV.int .i64 n28), (FV.str s4), (FV.int .i64 n29), (FV.str s5), (FV.bool b5), (FV.sl 1 es15), (FV.sl 6 es16), (FV.int .i64 n30), (FV.int .i64 n31)]])) * 120) ≤ 220000000000000) ∧ (∃ es17 : List (List FV), (∃ n32 : Int, ((Fn Tryd.prog 21 [(TV.one (AV.ptr 0 0 0 0))] [(Ob.g 59 [(AV.fz (FV.sl 1 es14)), (AV.fz (FV.int .i64 n27))])] (TV.tup []) [(Ob.g 59 [(AV.fz (FV.sl 1 es17)), (AV.fz (FV.int .i64 n32))])]) ∧ (token_Scan_L0 R RX es17 n32 (o ++ [[(FV.int .i64 n28), (FV.str s4), (FV.int .i64 n29), (FV.str s5), (FV.bool b5), (FV.sl 1 es15), (FV.sl 6 es16), (FV.int .i64 n30), (FV.int .i64 n31)]])))))))))))))))))))) ∧ ((b4 = false) → (∃ n33 : Int, (∃ n34 : Int, (∃ es18 : List (List FV), ((FnDf Tryd.prog 20 [(TV.one (AV.ptr 0 0 0 0)), (TV.one (AV.ptr 1 0 0 0)), (TV.one (AV.ptr 2 0 0 0))] [(Ob.g 24 [(AV.ofl 9 3)]), (Ob.g 3 [(AV.fz (FV.int .i64 0))]), (Ob.g 25 [(AV.fz (FV.int .i64 0))]), (Ob.f 0 9 o)] none [(Ob.g 24 [(AV.ofl 9 3)]), (Ob.g 3 [(AV.fz (FV.int .i64 n33))]), (Ob.g 25 [(AV.fz (FV.int .i64 n34))]), (Ob.f 0 9 es18)]) ∧ (R (TV.tup [(false, [(AV.fz (FV.sl 9 es18))]), (false, [(AV.fz (FV.int .i64 n33))]), (false, [(AV.fz (FV.int .i64 n34))])]) [])))))))))))
theorem token_Scan_l0 {R : TV → List Ob → Prop} {RX : FV → List Ob → Prop} {es : List (List FV)} {n1 : Int} {o : List (List FV)} (h : token_Scan_R0 R RX es n1 o) : token_Scan_L0 R RX es n1 o :=
  LoopAtD.by_tr (by kernel_rfl) (by kernel_rfl) h
def token_Scan_H (R : TV → List Ob → Prop) (RX : FV → List Ob → Prop) (tx : List (List FV)) : Prop :=
  (∃ n24 : Int, ((Fn Tryd.prog 17 [(TV.one (AV.fz (FV.sl 1 tx))), (TV.one (AV.fz (FV.fn 18 [])))] [] (TV.one (AV.fz (FV.int .i64 n24))) []) ∧ ((((decide ((0 : Int) ≤ n24)) = true) → (R (TV.tup [(false, [(AV.fz (FV.sl 9 ([] : List (List FV))))]), (false, [(AV.fz (FV.int .i64 n24))]), (false, [(AV.fz (FV.int .i64 1))])]) [])) ∧ (((decide ((0 : Int) ≤ n24)) = false) → (∃ es13 : List (List FV), (∃ n25 : Int, ((Fn Tryd.prog 21 [(TV.one (AV.ptr 0 0 0 0))] [(Ob.g 59 [(AV.fz (FV.sl 1 tx)), (AV.fz (FV.int .i64 0))])] (TV.tup []) [(Ob.g 59 [(AV.fz (FV.sl 1 es13)), (AV.fz (FV.int .i64 n25))])]) ∧ (token_Scan_L0 R RX es13 n25 ([] : List (List FV))))))))))
theorem token_Scan_fn (tx : List (List FV)) {r : TV} {h : List Ob} (H : token_Scan_H (fun r' h' => r' = r ∧ Wk h' h) (fun _ _ => False) tx) : Fn Tryd.prog 8 [(TV.one (AV.fz (FV.sl 1 tx)))] [] r h :=
  Fn.by_trD (M := (modeX [] [(22, [(Sig.mk 1 [(false, [(AT.k CK.bool)])] [(OT.g 59 [(AT.k (CK.sl 1)), (AT.k (CK.int .i64))])] 0)]), (21, [(Sig.mk 1 [] [(OT.g 59 [(AT.k (CK.sl 1)), (AT.k (CK.int .i64))])] 0)]), (23, [(Sig.mk 1 [(true, [(AT.k (CK.int .i64)), (AT.k CK.str), (AT.k (CK.int .i64)), (AT.k CK.str), (AT.k CK.bool), (AT.k (CK.sl 1)), (AT.k (CK.sl 6)), (AT.k (CK.int .i64)), (AT.k (CK.int .i64))])] [(OT.g 59 [(AT.k (CK.sl 1)), (AT.k (CK.int .i64))])] 0)]), (20, [(Sig.mk 3 [] [(OT.g 24 [(AT.a (AV.nsl 9))]), (OT.g 3 [(AT.k (CK.int .i64))]), (OT.g 25 [(AT.k (CK.int .i64))])] 0), (Sig.mk 4 [] [(OT.g 24 [(AT.a (AV.ofl 9 3))]), (OT.g 3 [(AT.k (CK.int .i64))]), (OT.g 25 [(AT.k (CK.int .i64))]), (OT.f 0 9)] 0)])] [23] 0 (fun _ _ => False))) (lv := token_Scan_lv) (own := none) (n := 3) (F := Tryd.f8) (by kernel_rfl) (by kernel_rfl) (by first | decide | simp) (by kernel_rfl) H
def ixScal_lv : List Nat → Keep := lvOf [([0, 1, 0, 1], ⟨387, 0, [], false, false⟩)]
def ixScal_S0 (s : List (List FV)) (i : Int) : St := (St.mk [(TV.one (AV.fz (FV.sl 1 s))), (TV.one (AV.fz (FV.fn 18 []))), TV.und, TV.und, TV.und, TV.und, TV.und, (TV.one (AV.fz (FV.int .i64 (((List.length s) : Nat) : Int)))), (TV.one (AV.fz (FV.int .i64 i))), TV.und, TV.und, TV.und, TV.und, TV.und, TV.und, TV.und, TV.und, TV.und, TV.und] [])
def ixScal_L0 (R : TV → List Ob → Prop) (s : List (List FV)) (i : Int) : Prop := LoopAt Tryd.prog (modeOf [] []) ixScal_lv Tryd.f17 none R [1, 0, 1, 0] (ixScal_S0 s i)
def ixScal_R0 (R : TV → List Ob → Prop) (s : List (List FV)) (i : Int) : Prop :=
  ((((decide (i < (((List.length s) : Nat) : Int))) = true) → (((0 : Int) ≤ i) ∧ (∃ n2 : Int, (((s)[(Int.toNat i)]? = (some [(FV.int .i64 n2)])) ∧ (∃ b2 : Bool, ((Fn Tryd.prog 18 [(TV.one (AV.fz (FV.int .i64 n2)))] [] (TV.one (AV.fz (FV.bool b2))) []) ∧ (((b2 = true) → (R (TV.one (AV.fz (FV.int .i64 i))) [])) ∧ ((b2 = false) → (ixScal_L0 R s (IntKind.wrap .i64 (i + 1))))))))))) ∧ (((decide (i < (((List.length s) : Nat) : Int))) = false) → (R (TV.one (AV.fz (FV.int .i64 (-1)))) [])))
theorem ixScal_l0 {R : TV → List Ob → Prop} {s : List (List FV)} {i : Int} (h : ixScal_R0 R s i) : ixScal_L0 R s i :=
  LoopAt.by_tr (by kernel_rfl) (by kernel_rfl) h
def ixScal_H (R : TV → List Ob → Prop) (s : List (List FV)) : Prop :=
  (ixScal_L0 R s 0)
theorem ixScal_fn (s : List (List FV)) {r : TV} {h : List Ob} (H : ixScal_H (fun r' h' => r' = r ∧ h' = h) s) : Fn Tryd.prog 17 [(TV.one (AV.fz (FV.sl 1 s))), (TV.one (AV.fz (FV.fn 18 [])))] [] r h :=
  Fn.by_tr (M := (modeOf [] [])) (lv := ixScal_lv) (own := none) (F := Tryd.f17) (by kernel_rfl) (by kernel_rfl) (by first | decide | simp) (fun _ _ h => h) (by kernel_rfl) H
end Go.Proofs.YtejefchehdifhaaDoor.Ev
end
section
set_option linter.unusedVariables false
set_option linter.unusedSimpArgs false
namespace Go.Proofs.YtejefchehdifhaaDoor.Ev
open Go
theorem Ty.inv_int {P : Program} {t : TypeId} {k : IntKind} {fs : List FV} (h : Ty P t fs) (hu : P.underlying t = some (.int k)) : ∃ n, fs = [.int k n] ∧ k.min ≤ n ∧ n ≤ k.max := by
  cases h <;> simp_all
theorem Ty.inv_str {P : Program} {t : TypeId} {fs : List FV} (h : Ty P t fs) (hu : P.underlying t = some .string) : ∃ s, fs = [.str s] ∧ s.size ≤ reachBytes := by
  cases h <;> simp_all
theorem tyV_int {t : TypeId} {k : IntKind} {x : TV} (h : TyV Tryd.prog t x) (hu : Tryd.prog.underlying t = some (.int k)) : ∃ n, x = fzI k n ∧ k.min ≤ n ∧ n ≤ k.max := by
  rcases h with ⟨fs, rfl, h, ds, hd⟩ | ⟨f, rfl, h⟩
  · rw [hu] at hd; cases hd
  · obtain ⟨n, h, h1, h2⟩ := h.inv_int hu
    cases h
    exact ⟨n, rfl, h1, h2⟩
theorem tyV_str {t : TypeId} {x : TV} (h : TyV Tryd.prog t x) (hu : Tryd.prog.underlying t = some .string) : ∃ s : ByteArray, x = .one (.fz (.str s)) ∧ s.size ≤ 140737488355328 := by
  rcases h with ⟨fs, rfl, h, ds, hd⟩ | ⟨f, rfl, h⟩
  · rw [hu] at hd; cases hd
  · obtain ⟨s, h, h1⟩ := h.inv_str hu
    cases h
    exact ⟨s, rfl, Nat.le_trans h1 (by decide)⟩
end Go.Proofs.YtejefchehdifhaaDoor.Ev
end
section
set_option linter.unusedVariables false
set_option linter.unusedSimpArgs false
namespace Go.Proofs.YtejefchehdifhaaDoor.Ev
open Go
inductive Dt where
  | mk (kind : Int) (text : ByteArray) (neg : Bool) (limbs : List Int) (list : List Dt) (at_ : Int)
mutual
def Dt.row : Dt → List FV
  | .mk k t n l ds a => [.int .i64 k, .str t, .bool n, .sl 1 (ints .u32 l), .sl 6 (Dt.rows ds), .int .i64 a]
def Dt.rows : List Dt → List (List FV)
  | [] => []
  | d :: ds => d.row :: Dt.rows ds
end
abbrev fzD (d : Dt) : TV := .agg (d.row.map .fz)
theorem rows_get : ∀ (ds : List Dt) (i : Nat), (Dt.rows ds)[i]? = ds[i]?.map Dt.row
  | [], i => by simp [Dt.rows]
  | d :: ds, 0 => by simp [Dt.rows]
  | d :: ds, i + 1 => by simp [Dt.rows, rows_get ds i]
theorem rows_len (ds : List Dt) : (Dt.rows ds).length = ds.length := by
  induction ds with
  | nil => rfl
  | cons d ds ih => simp [Dt.rows, ih]
def I64 (n : Int) : Prop := -9223372036854775808 ≤ n ∧ n ≤ 9223372036854775807
mutual
def Dt.ok : Dt → Prop
  | .mk k t _ l ds a => I64 k ∧ t.size ≤ 1048576 ∧ U32 l ∧ l.length * 4 ≤ 140737488355328 ∧ ds.length ≤ 1048576 ∧ Dt.oks ds ∧ I64 a
def Dt.oks : List Dt → Prop
  | [] => True
  | d :: ds => d.ok ∧ Dt.oks ds
end
end Go.Proofs.YtejefchehdifhaaDoor.Ev
end
section
set_option linter.unusedVariables false
set_option linter.unusedSimpArgs false
namespace Go.Proofs.YtejefchehdifhaaDoor.Ev
open Go
structure Tok where
  kind : Int
  name : List Int
  d : Dt
  at_ : Nat
def Tok.row (x : Tok) : List FV := [.int .i64 x.kind, .str (bytesOf x.name)] ++ x.d.row ++ [.int .i64 ((x.at_ : Nat) : Int)]
def lf (k : Int) (s : List Int) (n : Bool) (l : List Int) (a : Int) : Dt := .mk k (bytesOf s) n l [] a
abbrev lfR (k : Int) (s : List Int) (n : Bool) (l : List Int) (a : Int) : List FV := [.int .i64 k, .str (bytesOf s), .bool n, .sl 1 (ints .u32 l), .sl 6 ([] : List (List FV)), .int .i64 a]
theorem lf_row (k : Int) (s : List Int) (n : Bool) (l : List Int) (a : Int) : (lf k s n l a).row = lfR k s n l a := by simp [lf, Dt.row, Dt.rows]
def signP (r : List Int) : Int × List Int × Nat :=
  if pkL r 0 = 35 ∧ pkL r 1 = 44 ∧ pkL r 2 = 64 then (6, [117, 110, 115, 121, 110, 116, 97, 120, 45, 115, 112, 108, 105, 99, 105, 110, 103], 3)
  else if pkL r 0 = 35 ∧ pkL r 1 = 44 then (6, [117, 110, 115, 121, 110, 116, 97, 120], 2)
  else if pkL r 0 = 35 ∧ pkL r 1 = 39 then (6, [115, 121, 110, 116, 97, 120], 2)
  else if pkL r 0 = 35 ∧ pkL r 1 = 96 then (6, [113, 117, 97, 115, 105, 115, 121, 110, 116, 97, 120], 2)
  else if pkL r 0 = 35 ∧ pkL r 1 = 59 then (5, [], 2)
  else if pkL r 0 = 35 ∧ pkL r 1 = 40 then (3, [], 2)
  else if pkL r 0 = 44 ∧ pkL r 1 = 64 then (6, [117, 110, 113, 117, 111, 116, 101, 45, 115, 112, 108, 105, 99, 105, 110, 103], 2)
  else if pkL r 0 = 44 then (6, [117, 110, 113, 117, 111, 116, 101], 1)
  else if pkL r 0 = 39 then (6, [113, 117, 111, 116, 101], 1)
  else if pkL r 0 = 96 then (6, [113, 117, 97, 115, 105, 113, 117, 111, 116, 101], 1)
  else if pkL r 0 = 40 then (1, [], 1)
  else if pkL r 0 = 41 then (2, [], 1)
  else if pkL r 0 = 46 ∧ (pkL r 1 < 0 ∨ endsB (pkL r 1) = true) then (4, [], 1)
  else (0, [], 0)
def datV (f : Nat) (r : List Int) (k : Nat) : Option (Int × List Int × Bool × List Int × Nat) :=
  if pkL r 0 = 34 then (match strF f (r.drop 1) [] (k + 1) with
    | some (a, e) => if a.length ≤ 4096 then some (5, enc a, false, [], e) else none
    | none => none)
  else if pkL r 0 = 35 ∧ pkL r 1 = 92 then (if 0 ≤ chV (r.drop 2) then some (6, utfB (chV (r.drop 2)), false, [], k + 2 + chQ (r.drop 2)) else none)
  else if atomK (enc (r.take (untilN r))) ≠ 0 then some (atomK (enc (r.take (untilN r))), atomS (enc (r.take (untilN r))), atomN (enc (r.take (untilN r))), atomL (enc (r.take (untilN r))), k + untilN r) else none
def nextV (t : List Int) (p : Nat) : Option (Tok × Nat) :=
  if (signP (t.drop p)).2.2 ≠ 0 then some (⟨(signP (t.drop p)).1, (signP (t.drop p)).2.1, lf 0 [] false [] 0, p⟩, p + (signP (t.drop p)).2.2)
  else match datV (t.length + 1) (t.drop p) p with
    | some (k, s, n, l, e) => some (⟨7, [], lf k s n l p, p⟩, e)
    | none => none
abbrev datT (k : Int) (s : List Int) (n : Bool) (l : List Int) (b : Bool) : TV := .tup [(true, (lfR k s n l 0).map .fz), (false, [.fz (.bool b)])]
theorem exC1 (v : TV) (h : List Ob) : ∃ R : TV → List Ob → Prop, (∀ r' h', Cool 1 r' h' v h → R r' h') ∧ (fun r' h' => Cool 1 r' h' v h) = R := ⟨_, fun _ _ h => h, rfl⟩
theorem pkL_zero (x : Int) (r : List Int) : pkL (x :: r) 0 = x := by rw [pkL_lt (by simp)]; rfl
theorem pkL_succ (x : Int) (r : List Int) (i : Nat) : pkL (x :: r) (i + 1) = pkL r i := by
  unfold pkL
  rw [List.length_cons]
  by_cases h : i < r.length
  · rw [if_pos (by omega), if_pos h]; rfl
  · rw [if_neg (by omega), if_neg h]
theorem hereB_1 (c : Int) (r : List Int) (hc : 0 ≤ c) : hereB [c] r = decide (pkL r 0 = c) := by
  cases r with
  | nil => unfold hereB; rw [pkL_ge (by simp)]; simp; omega
  | cons x r => unfold hereB hereB; rw [pkL_zero, Bool.and_true]
theorem hereB_2 (c d : Int) (r : List Int) (hc : 0 ≤ c) (hd : 0 ≤ d) : hereB [c, d] r = decide (pkL r 0 = c ∧ pkL r 1 = d) := by
  cases r with
  | nil => unfold hereB; rw [pkL_ge (by simp)]; simp; omega
  | cons x r =>
    unfold hereB
    rw [hereB_1 d r hd, pkL_zero, pkL_succ, ← Bool.decide_and]
theorem hereB_3 (c d e : Int) (r : List Int) (hc : 0 ≤ c) (hd : 0 ≤ d) (he : 0 ≤ e) : hereB [c, d, e] r = decide (pkL r 0 = c ∧ pkL r 1 = d ∧ pkL r 2 = e) := by
  cases r with
  | nil => unfold hereB; rw [pkL_ge (by simp)]; simp; omega
  | cons x r =>
    unfold hereB
    rw [hereB_2 d e r hd he, pkL_zero, pkL_succ, pkL_succ, ← Bool.decide_and]
theorem pkL_pos {r : List Int} {i : Nat} (h : 0 ≤ pkL r i) : i < r.length := by
  unfold pkL at h
  split at h
  · assumption
  · omega
theorem enc_le {t : List Int} (hlen : t.length ≤ 4000000) (p n : Nat) : (enc ((t.drop p).take n)).length ≤ 16777216 := by
  have h := enc_len ((t.drop p).take n)
  have h2 : ((t.drop p).take n).length ≤ t.length := by simp; omega
  omega
theorem sDatum_ok (t : List Int) (hs : Scals t) (hlen : t.length ≤ 4000000) (p : Nat) (hp : p < t.length) :
    ∃ k s n l b q, Fn Tryd.prog 37 [scP] (scM t p) (datT k s n l b) (scM t q) ∧ datV (t.length + 1) (t.drop p) p = if b = true then some (k, s, n, l, q) else none := by
  have hH1 := sHere_ok t hs (by omega) p (by omega) [34] (by intro x hx; simp at hx; omega) (by simp)
  have hH2 := sHere_ok t hs (by omega) p (by omega) [35, 92] (by intro x hx; simp at hx; omega) (by simp)
  rw [show bytesOf [34] = ByteArray.mk #[34] from by decide +kernel, hereB_1 _ _ (by omega)] at hH1
  rw [show bytesOf [35, 92] = ByteArray.mk #[35, 92] from by decide +kernel, hereB_2 _ _ _ (by omega) (by omega)] at hH2
  unfold datV
  by_cases c1 : pkL (t.drop p) 0 = 34
  · have hS := sStr_ok t hs (by omega) (p + 1) (by omega)
    rw [if_pos c1, List.drop_drop]
    rw [decide_eq_true c1] at hH1
    have key : ∀ (a : List Int) (b : Bool) (q : Nat), Fn Tryd.prog 46 [scP] (scM t (p + 1)) (.tup [(false, [.fz (.str (bytesOf a))]), (false, [.fz (.bool b)])]) (scM t q) →
        Fn Tryd.prog 37 [scP] (scM t p) (datT 5 a false [] b) (scM t q) := by
      intro a b q hF
      refine token_scanner_datumO_fc _ _ ?_
      obtain ⟨R, hR, hRe⟩ := exC1 (datT 5 a false [] b) (scM t q); rw [hRe]; clear hRe
      unfold token_scanner_datumO_H
      refine ⟨_, _, _, hH1, fun _ => ⟨_, _, _, _, ?_, hR _ _ ⟨rfl, Wk.refl _, rfl⟩⟩, fun h => absurd h (by decide)⟩
      rw [w64 (by omega) (by omega)]
      exact hF
    cases hst : strF (t.length + 1) (t.drop (p + 1)) [] (p + 1) with
    | none =>
      rw [hst] at hS
      exact ⟨5, [], false, [], false, _, key _ _ _ hS, rfl⟩
    | some ae =>
      obtain ⟨a, e⟩ := ae
      rw [hst, strP_some _ _ _ _ _ _ hst] at hS
      refine ⟨5, enc a, false, [], decide (a.length ≤ 4096), e, key _ _ _ hS, ?_⟩
      simp only
      by_cases hl : a.length ≤ 4096
      · rw [if_pos hl, decide_eq_true hl, if_pos rfl]
      · rw [if_neg hl, decide_eq_false hl, if_neg (by simp)]
  · rw [if_neg c1]
    rw [decide_eq_false c1] at hH1
    by_cases c2 : pkL (t.drop p) 0 = 35 ∧ pkL (t.drop p) 1 = 92
    · rw [if_pos c2]
      rw [decide_eq_true c2] at hH2
      have h2 : p + 2 ≤ t.length := by
        have := pkL_pos (r := t.drop p) (i := 1) (by omega)
        rw [List.length_drop] at this
        omega
      have hC := sChar_ok t hs hlen (p + 2) h2
      refine ⟨6, chX (t.drop (p + 2)), false, [], decide (0 ≤ chV (t.drop (p + 2))), p + 2 + chQ (t.drop (p + 2)), ?_, ?_⟩
      · refine token_scanner_datumO_fc _ _ ?_
        obtain ⟨R, hR, hRe⟩ := exC1 (datT 6 (chX (t.drop (p + 2))) false [] (decide (0 ≤ chV (t.drop (p + 2))))) (scM t (p + 2 + chQ (t.drop (p + 2)))); rw [hRe]; clear hRe
        unfold token_scanner_datumO_H
        refine ⟨_, _, _, hH1, fun h => absurd h (by decide), fun _ => ⟨_, _, _, hH2, fun _ => ⟨_, _, _, _, ?_, hR _ _ ⟨rfl, Wk.refl _, rfl⟩⟩, fun h => absurd h (by decide)⟩⟩
        rw [w64 (by omega) (by omega)]
        exact hC
      · rw [List.drop_drop]
        by_cases hv : 0 ≤ chV (t.drop (p + 2))
        · rw [if_pos hv, decide_eq_true hv, if_pos rfl]
          have : chX (t.drop (p + 2)) = utfB (chV (t.drop (p + 2))) := by
            unfold chX
            rw [if_neg (fun e => by rw [e] at hv; exact absurd hv (by decide)), if_pos hv]
          rw [this]
        · rw [if_neg hv, decide_eq_false hv, if_neg (by simp)]
    · rw [if_neg c2]
      rw [decide_eq_false c2] at hH2
      have hW := sWhile_ok t hs (by omega) p 0 (by omega)
      rw [Nat.add_zero, Nat.zero_add] at hW
      have hbB : Bytes (enc ((t.drop p).take (untilN (t.drop p)))) := enc_bytes ((hs.drop p).take _)
      have hA := tAtom_ok (enc ((t.drop p).take (untilN (t.drop p)))) hbB (enc_le hlen _ _)
      refine ⟨atomK (enc ((t.drop p).take (untilN (t.drop p)))), atomS (enc ((t.drop p).take (untilN (t.drop p)))), atomN (enc ((t.drop p).take (untilN (t.drop p)))), atomL (enc ((t.drop p).take (untilN (t.drop p)))), decide (atomK (enc ((t.drop p).take (untilN (t.drop p)))) ≠ 0), p + untilN (t.drop p), ?_, ?_⟩
      · refine token_scanner_datumO_fc _ _ ?_
        obtain ⟨R, hR, hRe⟩ := exC1 (datT (atomK (enc ((t.drop p).take (untilN (t.drop p))))) (atomS (enc ((t.drop p).take (untilN (t.drop p))))) (atomN (enc ((t.drop p).take (untilN (t.drop p))))) (atomL (enc ((t.drop p).take (untilN (t.drop p))))) (decide (atomK (enc ((t.drop p).take (untilN (t.drop p)))) ≠ 0))) (scM t (p + untilN (t.drop p))); rw [hRe]; clear hRe
        unfold token_scanner_datumO_H
        exact ⟨_, _, _, hH1, fun h => absurd h (by decide), fun _ => ⟨_, _, _, hH2, fun h => absurd h (by decide), fun _ => ⟨_, _, _, hW, _, _, _, _, _, _, _, hA, hR _ _ ⟨rfl, Wk.refl _, rfl⟩⟩⟩⟩
      · by_cases hk : atomK (enc ((t.drop p).take (untilN (t.drop p)))) ≠ 0
        · rw [if_pos hk, decide_eq_true hk, if_pos rfl]
        · rw [if_neg hk, decide_eq_false hk, if_neg (by simp)]
theorem sNext_H (t : List Int) (hs : Scals t) (hlen : t.length ≤ 4000000) (p : Nat) (hp : p < t.length) (R : TV → List Ob → Prop) (RX : FV → List Ob → Prop)
    (hR : ∀ tok q, nextV t p = some (tok, q) → ∀ r' h', Cool 1 r' h' (.agg (tok.row.map .fz)) (scM t q) → R r' h')
    (hX : nextV t p = none → RX (.ifv 55 true [.int .i64 ((p : Nat) : Int)]) (shH (scM t p))) :
    token_scanner_nextO_H R RX (ints .i64 t) ((p : Nat) : Int) := by
  have hpL : ∀ i, pkL (t.drop p) i = pkL t (p + i) := fun i => pkL_drop t p i
  have sg : ∀ (k : Int) (nm : List Int) (n : Nat), signP (t.drop p) = (k, nm, n) → n ≠ 0 → ∀ r' h', Cool 1 r' h' (.agg ([.int .i64 k, .str (bytesOf nm), .int .i64 0, .str (ByteArray.mk #[]), .bool false, .sl 1 ([] : List (List FV)), .sl 6 ([] : List (List FV)), .int .i64 0, .int .i64 ((p : Nat) : Int)].map .fz)) (scM t (p + n)) → R r' h' := by
    intro k nm n hsg hn r' h' hc
    have : nextV t p = some (⟨k, nm, lf 0 [] false [] 0, p⟩, p + n) := by
      unfold nextV; rw [hsg]; simp only; rw [if_pos hn]
    refine hR _ _ this r' h' ?_
    unfold Tok.row
    rw [lf_row]
    exact hc
  have kinds_ : ∀ (c : Int), pkL (t.drop p) 0 = c → pkL (t.drop p) 0 = c := fun _ h => h
  unfold token_scanner_nextO_H
  have w0 := sHere_ok t hs (by omega) p (by omega) [35, 44, 64] (by intro x hx; simp at hx; omega) (by simp)
  rw [show bytesOf [35, 44, 64] = ByteArray.mk #[35, 44, 64] from by decide +kernel, hereB_3 35 44 64 _ (by omega) (by omega) (by omega)] at w0
  refine token_scanner_nextO_l0 ?_
  unfold token_scanner_nextO_R0
  refine ⟨fun _ => ⟨⟨by omega, by omega⟩, ByteArray.mk #[35, 44, 64], 6, ByteArray.mk #[117, 110, 115, 121, 110, 116, 97, 120, 45, 115, 112, 108, 105, 99, 105, 110, 103], rfl, _, _, _, w0, fun h => ?_, fun h => ?_⟩, fun h => absurd h (by decide)⟩
  · have h := of_decide_eq_true h
    refine sg 6 [117, 110, 115, 121, 110, 116, 97, 120, 45, 115, 112, 108, 105, 99, 105, 110, 103] 3 ?_ (by decide) _ _ ?_
    · unfold signP
      first | (simp only [h]; rfl) | (simp [h]; done) | (simp [h]; omega)
    · rw [show bytesOf [117, 110, 115, 121, 110, 116, 97, 120, 45, 115, 112, 108, 105, 99, 105, 110, 103] = ByteArray.mk #[117, 110, 115, 121, 110, 116, 97, 120, 45, 115, 112, 108, 105, 99, 105, 110, 103] from by decide +kernel, w64 (by have : ((ByteArray.size (ByteArray.mk #[35, 44, 64]) : Nat) : Int) = 3 := rfl; omega) (by have : ((ByteArray.size (ByteArray.mk #[35, 44, 64]) : Nat) : Int) = 3 := rfl; omega)]
      exact ⟨rfl, Wk.refl _, rfl⟩
  have g0 := of_decide_eq_false h
  clear h w0
  rw [w64 (by omega) (by omega)]
  have w1 := sHere_ok t hs (by omega) p (by omega) [35, 40] (by intro x hx; simp at hx; omega) (by simp)
  rw [show bytesOf [35, 40] = ByteArray.mk #[35, 40] from by decide +kernel, hereB_2 35 40 _ (by omega) (by omega)] at w1
  refine token_scanner_nextO_l0 ?_
  unfold token_scanner_nextO_R0
  refine ⟨fun _ => ⟨⟨by omega, by omega⟩, ByteArray.mk #[35, 40], 3, ByteArray.mk #[], rfl, _, _, _, w1, fun h => ?_, fun h => ?_⟩, fun h => absurd h (by decide)⟩
  · have h := of_decide_eq_true h
    refine sg 3 [] 2 ?_ (by decide) _ _ ?_
    · unfold signP
      first | (simp only [h]; rfl) | (simp [h]; done) | (simp [h]; omega)
    · rw [show bytesOf [] = ByteArray.mk #[] from by decide +kernel, w64 (by have : ((ByteArray.size (ByteArray.mk #[35, 40]) : Nat) : Int) = 2 := rfl; omega) (by have : ((ByteArray.size (ByteArray.mk #[35, 40]) : Nat) : Int) = 2 := rfl; omega)]
      exact ⟨rfl, Wk.refl _, rfl⟩
  have g1 := of_decide_eq_false h
  clear h w1
  rw [w64 (by omega) (by omega)]
  have w2 := sHere_ok t hs (by omega) p (by omega) [35, 59] (by intro x hx; simp at hx; omega) (by simp)
  rw [show bytesOf [35, 59] = ByteArray.mk #[35, 59] from by decide +kernel, hereB_2 35 59 _ (by omega) (by omega)] at w2
  refine token_scanner_nextO_l0 ?_
  unfold token_scanner_nextO_R0
  refine ⟨fun _ => ⟨⟨by omega, by omega⟩, ByteArray.mk #[35, 59], 5, ByteArray.mk #[], rfl, _, _, _, w2, fun h => ?_, fun h => ?_⟩, fun h => absurd h (by decide)⟩
  · have h := of_decide_eq_true h
    refine sg 5 [] 2 ?_ (by decide) _ _ ?_
    · unfold signP
      first | (simp only [h]; rfl) | (simp [h]; done) | (simp [h]; omega)
    · rw [show bytesOf [] = ByteArray.mk #[] from by decide +kernel, w64 (by have : ((ByteArray.size (ByteArray.mk #[35, 59]) : Nat) : Int) = 2 := rfl; omega) (by have : ((ByteArray.size (ByteArray.mk #[35, 59]) : Nat) : Int) = 2 := rfl; omega)]
      exact ⟨rfl, Wk.refl _, rfl⟩
  have g2 := of_decide_eq_false h
  clear h w2
  rw [w64 (by omega) (by omega)]
  have w3 := sHere_ok t hs (by omega) p (by omega) [35, 39] (by intro x hx; simp at hx; omega) (by simp)
  rw [show bytesOf [35, 39] = ByteArray.mk #[35, 39] from by decide +kernel, hereB_2 35 39 _ (by omega) (by omega)] at w3
  refine token_scanner_nextO_l0 ?_
  unfold token_scanner_nextO_R0
  refine ⟨fun _ => ⟨⟨by omega, by omega⟩, ByteArray.mk #[35, 39], 6, ByteArray.mk #[115, 121, 110, 116, 97, 120], rfl, _, _, _, w3, fun h => ?_, fun h => ?_⟩, fun h => absurd h (by decide)⟩
  · have h := of_decide_eq_true h
    refine sg 6 [115, 121, 110, 116, 97, 120] 2 ?_ (by decide) _ _ ?_
    · unfold signP
      first | (simp only [h]; rfl) | (simp [h]; done) | (simp [h]; omega)
    · rw [show bytesOf [115, 121, 110, 116, 97, 120] = ByteArray.mk #[115, 121, 110, 116, 97, 120] from by decide +kernel, w64 (by have : ((ByteArray.size (ByteArray.mk #[35, 39]) : Nat) : Int) = 2 := rfl; omega) (by have : ((ByteArray.size (ByteArray.mk #[35, 39]) : Nat) : Int) = 2 := rfl; omega)]
      exact ⟨rfl, Wk.refl _, rfl⟩
  have g3 := of_decide_eq_false h
  clear h w3
  rw [w64 (by omega) (by omega)]
  have w4 := sHere_ok t hs (by omega) p (by omega) [35, 96] (by intro x hx; simp at hx; omega) (by simp)
  rw [show bytesOf [35, 96] = ByteArray.mk #[35, 96] from by decide +kernel, hereB_2 35 96 _ (by omega) (by omega)] at w4
  refine token_scanner_nextO_l0 ?_
  unfold token_scanner_nextO_R0
  refine ⟨fun _ => ⟨⟨by omega, by omega⟩, ByteArray.mk #[35, 96], 6, ByteArray.mk #[113, 117, 97, 115, 105, 115, 121, 110, 116, 97, 120], rfl, _, _, _, w4, fun h => ?_, fun h => ?_⟩, fun h => absurd h (by decide)⟩
  · have h := of_decide_eq_true h
    refine sg 6 [113, 117, 97, 115, 105, 115, 121, 110, 116, 97, 120] 2 ?_ (by decide) _ _ ?_
    · unfold signP
      first | (simp only [h]; rfl) | (simp [h]; done) | (simp [h]; omega)
    · rw [show bytesOf [113, 117, 97, 115, 105, 115, 121, 110, 116, 97, 120] = ByteArray.mk #[113, 117, 97, 115, 105, 115, 121, 110, 116, 97, 120] from by decide +kernel, w64 (by have : ((ByteArray.size (ByteArray.mk #[35, 96]) : Nat) : Int) = 2 := rfl; omega) (by have : ((ByteArray.size (ByteArray.mk #[35, 96]) : Nat) : Int) = 2 := rfl; omega)]
      exact ⟨rfl, Wk.refl _, rfl⟩
  have g4 := of_decide_eq_false h
  clear h w4
  rw [w64 (by omega) (by omega)]
  have w5 := sHere_ok t hs (by omega) p (by omega) [35, 44] (by intro x hx; simp at hx; omega) (by simp)
  rw [show bytesOf [35, 44] = ByteArray.mk #[35, 44] from by decide +kernel, hereB_2 35 44 _ (by omega) (by omega)] at w5
  refine token_scanner_nextO_l0 ?_
  unfold token_scanner_nextO_R0
  refine ⟨fun _ => ⟨⟨by omega, by omega⟩, ByteArray.mk #[35, 44], 6, ByteArray.mk #[117, 110, 115, 121, 110, 116, 97, 120], rfl, _, _, _, w5, fun h => ?_, fun h => ?_⟩, fun h => absurd h (by decide)⟩
  · have h := of_decide_eq_true h
    refine sg 6 [117, 110, 115, 121, 110, 116, 97, 120] 2 ?_ (by decide) _ _ ?_
    · unfold signP
      first | (simp only [h]; rfl) | (simp [h]; done) | (simp [h]; omega)
    · rw [show bytesOf [117, 110, 115, 121, 110, 116, 97, 120] = ByteArray.mk #[117, 110, 115, 121, 110, 116, 97, 120] from by decide +kernel, w64 (by have : ((ByteArray.size (ByteArray.mk #[35, 44]) : Nat) : Int) = 2 := rfl; omega) (by have : ((ByteArray.size (ByteArray.mk #[35, 44]) : Nat) : Int) = 2 := rfl; omega)]
      exact ⟨rfl, Wk.refl _, rfl⟩
  have g5 := of_decide_eq_false h
  clear h w5
  rw [w64 (by omega) (by omega)]
  have w6 := sHere_ok t hs (by omega) p (by omega) [44, 64] (by intro x hx; simp at hx; omega) (by simp)
  rw [show bytesOf [44, 64] = ByteArray.mk #[44, 64] from by decide +kernel, hereB_2 44 64 _ (by omega) (by omega)] at w6
  refine token_scanner_nextO_l0 ?_
  unfold token_scanner_nextO_R0
  refine ⟨fun _ => ⟨⟨by omega, by omega⟩, ByteArray.mk #[44, 64], 6, ByteArray.mk #[117, 110, 113, 117, 111, 116, 101, 45, 115, 112, 108, 105, 99, 105, 110, 103], rfl, _, _, _, w6, fun h => ?_, fun h => ?_⟩, fun h => absurd h (by decide)⟩
  · have h := of_decide_eq_true h
    refine sg 6 [117, 110, 113, 117, 111, 116, 101, 45, 115, 112, 108, 105, 99, 105, 110, 103] 2 ?_ (by decide) _ _ ?_
    · unfold signP
      first | (simp only [h]; rfl) | (simp [h]; done) | (simp [h]; omega)
    · rw [show bytesOf [117, 110, 113, 117, 111, 116, 101, 45, 115, 112, 108, 105, 99, 105, 110, 103] = ByteArray.mk #[117, 110, 113, 117, 111, 116, 101, 45, 115, 112, 108, 105, 99, 105, 110, 103] from by decide +kernel, w64 (by have : ((ByteArray.size (ByteArray.mk #[44, 64]) : Nat) : Int) = 2 := rfl; omega) (by have : ((ByteArray.size (ByteArray.mk #[44, 64]) : Nat) : Int) = 2 := rfl; omega)]
      exact ⟨rfl, Wk.refl _, rfl⟩
  have g6 := of_decide_eq_false h
  clear h w6
  rw [w64 (by omega) (by omega)]
  have w7 := sHere_ok t hs (by omega) p (by omega) [40] (by intro x hx; simp at hx; omega) (by simp)
  rw [show bytesOf [40] = ByteArray.mk #[40] from by decide +kernel, hereB_1 40 _ (by omega)] at w7
  refine token_scanner_nextO_l0 ?_
  unfold token_scanner_nextO_R0
  refine ⟨fun _ => ⟨⟨by omega, by omega⟩, ByteArray.mk #[40], 1, ByteArray.mk #[], rfl, _, _, _, w7, fun h => ?_, fun h => ?_⟩, fun h => absurd h (by decide)⟩
  · have h := of_decide_eq_true h
    refine sg 1 [] 1 ?_ (by decide) _ _ ?_
    · unfold signP
      first | (simp only [h]; rfl) | (simp [h]; done) | (simp [h]; omega)
    · rw [show bytesOf [] = ByteArray.mk #[] from by decide +kernel, w64 (by have : ((ByteArray.size (ByteArray.mk #[40]) : Nat) : Int) = 1 := rfl; omega) (by have : ((ByteArray.size (ByteArray.mk #[40]) : Nat) : Int) = 1 := rfl; omega)]
      exact ⟨rfl, Wk.refl _, rfl⟩
  have g7 := of_decide_eq_false h
  clear h w7
  rw [w64 (by omega) (by omega)]
  have w8 := sHere_ok t hs (by omega) p (by omega) [41] (by intro x hx; simp at hx; omega) (by simp)
  rw [show bytesOf [41] = ByteArray.mk #[41] from by decide +kernel, hereB_1 41 _ (by omega)] at w8
  refine token_scanner_nextO_l0 ?_
  unfold token_scanner_nextO_R0
  refine ⟨fun _ => ⟨⟨by omega, by omega⟩, ByteArray.mk #[41], 2, ByteArray.mk #[], rfl, _, _, _, w8, fun h => ?_, fun h => ?_⟩, fun h => absurd h (by decide)⟩
  · have h := of_decide_eq_true h
    refine sg 2 [] 1 ?_ (by decide) _ _ ?_
    · unfold signP
      first | (simp only [h]; rfl) | (simp [h]; done) | (simp [h]; omega)
    · rw [show bytesOf [] = ByteArray.mk #[] from by decide +kernel, w64 (by have : ((ByteArray.size (ByteArray.mk #[41]) : Nat) : Int) = 1 := rfl; omega) (by have : ((ByteArray.size (ByteArray.mk #[41]) : Nat) : Int) = 1 := rfl; omega)]
      exact ⟨rfl, Wk.refl _, rfl⟩
  have g8 := of_decide_eq_false h
  clear h w8
  rw [w64 (by omega) (by omega)]
  have w9 := sHere_ok t hs (by omega) p (by omega) [39] (by intro x hx; simp at hx; omega) (by simp)
  rw [show bytesOf [39] = ByteArray.mk #[39] from by decide +kernel, hereB_1 39 _ (by omega)] at w9
  refine token_scanner_nextO_l0 ?_
  unfold token_scanner_nextO_R0
  refine ⟨fun _ => ⟨⟨by omega, by omega⟩, ByteArray.mk #[39], 6, ByteArray.mk #[113, 117, 111, 116, 101], rfl, _, _, _, w9, fun h => ?_, fun h => ?_⟩, fun h => absurd h (by decide)⟩
  · have h := of_decide_eq_true h
    refine sg 6 [113, 117, 111, 116, 101] 1 ?_ (by decide) _ _ ?_
    · unfold signP
      first | (simp only [h]; rfl) | (simp [h]; done) | (simp [h]; omega)
    · rw [show bytesOf [113, 117, 111, 116, 101] = ByteArray.mk #[113, 117, 111, 116, 101] from by decide +kernel, w64 (by have : ((ByteArray.size (ByteArray.mk #[39]) : Nat) : Int) = 1 := rfl; omega) (by have : ((ByteArray.size (ByteArray.mk #[39]) : Nat) : Int) = 1 := rfl; omega)]
      exact ⟨rfl, Wk.refl _, rfl⟩
  have g9 := of_decide_eq_false h
  clear h w9
  rw [w64 (by omega) (by omega)]
  have w10 := sHere_ok t hs (by omega) p (by omega) [96] (by intro x hx; simp at hx; omega) (by simp)
  rw [show bytesOf [96] = ByteArray.mk #[96] from by decide +kernel, hereB_1 96 _ (by omega)] at w10
  refine token_scanner_nextO_l0 ?_
  unfold token_scanner_nextO_R0
  refine ⟨fun _ => ⟨⟨by omega, by omega⟩, ByteArray.mk #[96], 6, ByteArray.mk #[113, 117, 97, 115, 105, 113, 117, 111, 116, 101], rfl, _, _, _, w10, fun h => ?_, fun h => ?_⟩, fun h => absurd h (by decide)⟩
  · have h := of_decide_eq_true h
    refine sg 6 [113, 117, 97, 115, 105, 113, 117, 111, 116, 101] 1 ?_ (by decide) _ _ ?_
    · unfold signP
      first | (simp only [h]; rfl) | (simp [h]; done) | (simp [h]; omega)
    · rw [show bytesOf [113, 117, 97, 115, 105, 113, 117, 111, 116, 101] = ByteArray.mk #[113, 117, 97, 115, 105, 113, 117, 111, 116, 101] from by decide +kernel, w64 (by have : ((ByteArray.size (ByteArray.mk #[96]) : Nat) : Int) = 1 := rfl; omega) (by have : ((ByteArray.size (ByteArray.mk #[96]) : Nat) : Int) = 1 := rfl; omega)]
      exact ⟨rfl, Wk.refl _, rfl⟩
  have g10 := of_decide_eq_false h
  clear h w10
  rw [w64 (by omega) (by omega)]
  have w11 := sHere_ok t hs (by omega) p (by omega) [44] (by intro x hx; simp at hx; omega) (by simp)
  rw [show bytesOf [44] = ByteArray.mk #[44] from by decide +kernel, hereB_1 44 _ (by omega)] at w11
  refine token_scanner_nextO_l0 ?_
  unfold token_scanner_nextO_R0
  refine ⟨fun _ => ⟨⟨by omega, by omega⟩, ByteArray.mk #[44], 6, ByteArray.mk #[117, 110, 113, 117, 111, 116, 101], rfl, _, _, _, w11, fun h => ?_, fun h => ?_⟩, fun h => absurd h (by decide)⟩
  · have h := of_decide_eq_true h
    refine sg 6 [117, 110, 113, 117, 111, 116, 101] 1 ?_ (by decide) _ _ ?_
    · unfold signP
      first | (simp only [h]; rfl) | (simp [h]; done) | (simp [h]; omega)
    · rw [show bytesOf [117, 110, 113, 117, 111, 116, 101] = ByteArray.mk #[117, 110, 113, 117, 111, 116, 101] from by decide +kernel, w64 (by have : ((ByteArray.size (ByteArray.mk #[44]) : Nat) : Int) = 1 := rfl; omega) (by have : ((ByteArray.size (ByteArray.mk #[44]) : Nat) : Int) = 1 := rfl; omega)]
      exact ⟨rfl, Wk.refl _, rfl⟩
  have g11 := of_decide_eq_false h
  clear h w11
  rw [w64 (by omega) (by omega)]
  refine token_scanner_nextO_l0 ?_
  unfold token_scanner_nextO_R0
  have hpk := sPeek_ok t p 0 (by omega) (by omega)
  rw [← hpL 0] at hpk
  obtain ⟨dk, ds, dn, dl, db, dq, hD, hV⟩ := sDatum_ok t hs hlen p hp
  refine ⟨fun h => absurd h (by decide), fun _ => ⟨_, _, _, hpk, ?_⟩⟩
  simp only [beq_t, beq_f, not_t, not_f, decide_eq_true_eq, decide_eq_false_iff_not]
  have leaf : signP (t.drop p) = (0, [], 0) → ∀ X Y : Prop, (RX (.ifv 55 true [.int .i64 ((p : Nat) : Int)]) (shH (scM t p)) → X) → (R (.agg ([.int .i64 7, .str (ByteArray.mk #[]), .int .i64 dk, .str (bytesOf ds), .bool dn, .sl 1 (ints .u32 dl), .sl 6 ([] : List (List FV)), .int .i64 ((p : Nat) : Int), .int .i64 ((p : Nat) : Int)].map .fz)) (scM t dq) → Y) → ((db = false → X) ∧ (db = true → Y)) := by
    intro hsg X Y hx hy
    refine ⟨fun hb => hx (hX ?_), fun hb => hy (hR ⟨7, [], lf dk ds dn dl p, p⟩ dq ?_ _ _ ?_)⟩
    · unfold nextV; rw [hsg]; simp only; rw [if_neg (by simp), hV, hb, if_neg (by simp)]
    · unfold nextV; rw [hsg]; simp only; rw [if_neg (by simp), hV, hb, if_pos rfl]
    · unfold Tok.row
      rw [lf_row]
      exact ⟨rfl, Wk.refl _, rfl⟩
  refine ⟨fun c46 => ⟨_, _, _, sLeft_ok t p 2 (by omega) (by omega), ?_⟩, fun c46 => ?_⟩
  · have e1 : IntKind.wrap .i64 ((p : Int) + 1) = ((p + 1 : Nat) : Int) := w64 (by omega) (by omega)
    have dot : (pkL (t.drop p) 1 < 0 ∨ endsB (pkL (t.drop p) 1) = true) → R (.agg [.fz (.int .i64 4), .fz (.str (ByteArray.mk #[])), .fz (.int .i64 0), .fz (.str (ByteArray.mk #[])), .fz (.bool false), .ofl 1 1, .ofl 6 2, .fz (.int .i64 0), .fz (.int .i64 ((p : Nat) : Int))]) [.g 59 [.fz (.sl 1 (ints .i64 t)), .fz (.int .i64 (IntKind.wrap .i64 ((p : Int) + 1)))], .f 0 1 ([] : List (List FV)), .f 0 6 ([] : List (List FV))] := fun h => by
      rw [e1]
      exact sg 4 [] 1 (by unfold signP; simp [c46, h]) (by decide) _ _ ⟨rfl, Wk.refl _, rfl⟩
    simp only [not_t, not_f, decide_eq_true_eq, decide_eq_false_iff_not]
    refine ⟨fun h2 => dot (.inl ?_), fun h2 => ⟨_, _, _, sPeek_ok t p 1 (by omega) (by omega), _, uEnds_ok _, fun he => dot (.inr ?_), fun he => ⟨_, _, _, _, _, _, _, _, _, hD, ?_⟩⟩⟩
    · rw [hpL 1, pkL_ge (by omega)]; omega
    · rw [hpL 1]; exact he
    · have hsg : signP (t.drop p) = (0, [], 0) := by
        have hlt : p + 1 < t.length := by omega
        have h1 : ¬ (pkL (t.drop p) 1 < 0 ∨ endsB (pkL (t.drop p) 1) = true) := by
          rw [hpL 1]
          rintro (h | h)
          · rw [pkL_lt hlt] at h
            have := (scal_in (hs.rd hlt)).1
            omega
          · rw [he] at h; cases h
        unfold signP
        simp only [c46]
        rw [if_neg (by omega), if_neg (by omega), if_neg (by omega), if_neg (by omega), if_neg (by omega), if_neg (by omega), if_neg (by omega), if_neg (by omega), if_neg (by omega), if_neg (by omega), if_neg (by omega), if_neg (by omega), if_neg (fun h => h1 h.2)]
      exact leaf hsg _ _ (fun h => h) (fun h => h)
  · refine ⟨_, _, _, _, _, _, _, _, _, hD, ?_⟩
    have hsg : signP (t.drop p) = (0, [], 0) := by
      unfold signP
      rw [if_neg g0, if_neg g5, if_neg g3, if_neg g4, if_neg g2, if_neg g1, if_neg g6, if_neg g11, if_neg g9, if_neg g10, if_neg g7, if_neg g8, if_neg (fun h => c46 h.1)]
    exact leaf hsg _ _ (fun h => h) (fun h => h)
theorem sNext_ok (t : List Int) (hs : Scals t) (hlen : t.length ≤ 4000000) (p : Nat) (hp : p < t.length) (tok : Tok) (q : Nat) (h : nextV t p = some (tok, q)) :
    Fn Tryd.prog 23 [scP] (scM t p) (.agg (tok.row.map .fz)) (scM t q) := by
  refine token_scanner_nextO_fc _ _ (sNext_H t hs hlen p hp _ _ (fun tok' q' h' r' hh hc => ?_) (fun h' => ?_))
  · rw [h] at h'; cases h'; exact hc
  · rw [h] at h'; cases h'
theorem sNext_fx (t : List Int) (hs : Scals t) (hlen : t.length ≤ 4000000) (p : Nat) (hp : p < t.length) (h : nextV t p = none) :
    FnX Tryd.prog 23 [scP] (scM t p) (.ifv 55 true [.int .i64 ((p : Nat) : Int)]) := by
  refine token_scanner_nextO_fx _ _ (sNext_H t hs hlen p hp _ _ (fun tok' q' h' r' hh hc => ?_) (fun h' => ⟨rfl, rfl⟩))
  rw [h] at h'; cases h'
end Go.Proofs.YtejefchehdifhaaDoor.Ev
end
section
set_option linter.unusedVariables false
set_option linter.unusedSimpArgs false
namespace Go.Proofs.YtejefchehdifhaaDoor.Ev
open Go
theorem FnC.args {P : Program} {C : Array Value → World → (Ending → World → Prop) → Prop} {E : Ending → Value → Prop} {xs ys : List TV} {h : List Ob} {r : TV} {h' : List Ob} (hl : xs.length = ys.length)
    (hr : ∀ (i : Nat) (x : TV), xs[i]? = some x → ∃ y, ys[i]? = some y ∧ ∀ (w : World) (B : Nat → Prop) (locs : Nat → Option Loc) (v : Value), RT w B locs y v → RT w B locs x v)
    (F : FnC P C E xs h r h') : FnC P C E ys h r h' := by
  intro ext w locs vals H hsz hrep
  refine F ext w locs vals H (by rw [hsz, hl]) (fun i x hi => ?_)
  obtain ⟨y, hy, himp⟩ := hr i x hi
  obtain ⟨v, hv, hv2⟩ := hrep i y hy
  exact ⟨v, hv, himp _ _ _ _ hv2⟩
theorem FnC.ptr1 {P : Program} {C : Array Value → World → (Ending → World → Prop) → Prop} {E : Ending → Value → Prop} {o e c ty : Nat} (ty' : Nat) {xs : List TV} {h : List Ob} {r : TV} {h' : List Ob}
    (F : FnC P C E (.one (.ptr o e c ty) :: xs) h r h') : FnC P C E (.one (.ptr o e c ty') :: xs) h r h' := by
  refine FnC.args (by simp) (fun i x hi => ?_) F
  cases i with
  | zero => cases hi; exact ⟨_, rfl, fun _ _ _ _ h => h⟩
  | succ i => exact ⟨x, hi, fun _ _ _ _ h => h⟩
theorem FnC.ptr3 {P : Program} {C : Array Value → World → (Ending → World → Prop) → Prop} {E : Ending → Value → Prop} {o e c ty o2 e2 c2 ty2 o3 e3 c3 ty3 : Nat} {xs : List TV} {h : List Ob} {r : TV} {h' : List Ob}
    (F : FnC P C E (.one (.ptr o e c ty) :: .one (.ptr o2 e2 c2 ty2) :: .one (.ptr o3 e3 c3 ty3) :: xs) h r h') : FnC P C E (.one (.ptr o e c 0) :: .one (.ptr o2 e2 c2 0) :: .one (.ptr o3 e3 c3 0) :: xs) h r h' := by
  refine FnC.args (by simp) (fun i x hi => ?_) F
  match i, hi with
  | 0, hi => cases hi; exact ⟨_, rfl, fun _ _ _ _ h => h⟩
  | 1, hi => cases hi; exact ⟨_, rfl, fun _ _ _ _ h => h⟩
  | 2, hi => cases hi; exact ⟨_, rfl, fun _ _ _ _ h => h⟩
  | i + 3, hi => exact ⟨x, hi, fun _ _ _ _ h => h⟩
def scanL : Nat → List Int → Nat → List Tok → List Tok × Int × Int
  | 0, _, _, _ => ([], 0, 3)
  | f + 1, t, p, acc => if t.length ≤ p + blC false (t.drop p) then (acc, 0, 0) else
    match nextV t (p + blC false (t.drop p)) with
    | some (tok, e) => scanL f t e (acc ++ [tok])
    | none => ([], ((p + blC false (t.drop p) : Nat) : Int), 3)
def badN : List Int → Nat
  | [] => 0
  | c :: r => if scalB c = true then badN r + 1 else 0
def scanV (t : List Int) : List Tok × Int × Int := if badN t < t.length then ([], ((badN t : Nat) : Int), 1) else scanL (t.length + 1) t 0 []
abbrev toks (l : List Tok) : List (List FV) := l.map Tok.row
abbrev scT (x : List Tok × Int × Int) : TV := .tup [(false, [.fz (.sl 9 (toks x.1))]), (false, [.fz (.int .i64 x.2.1)]), (false, [.fz (.int .i64 x.2.2)])]
theorem toks_snoc (l : List Tok) (x : Tok) : toks l ++ [x.row] = toks (l ++ [x]) := by simp [toks]
theorem badN_scals : ∀ {t : List Int}, ¬ badN t < t.length → Scals t
  | [], _ => by intro c hc; cases hc
  | c :: r, h => by
    unfold badN at h
    split at h
    · rename_i hc
      rw [List.length_cons] at h
      intro x hx
      rcases List.mem_cons.1 hx with rfl | hx
      · exact hc
      · exact badN_scals (by omega) x hx
    · simp at h
theorem badN_spec : ∀ (t : List Int) (j : Nat), (j < badN t → scalB (rd t j) = true) ∧ (badN t < t.length → scalB (rd t (badN t)) = false)
  | [], j => ⟨fun h => by simp [badN] at h, fun h => by simp [badN] at h⟩
  | c :: r, j => by
    have ih := badN_spec r
    unfold badN
    by_cases hc : scalB c = true
    · rw [if_pos hc]
      refine ⟨fun h => ?_, fun h => ?_⟩
      · cases j with
        | zero => exact hc
        | succ j => exact (ih j).1 (by omega)
      · rw [List.length_cons] at h
        exact (ih 0).2 (by omega)
    · rw [if_neg hc]
      refine ⟨fun h => by omega, fun h => ?_⟩
      show scalB c = false
      simpa using hc
theorem badN_le : ∀ t : List Int, badN t ≤ t.length
  | [] => Nat.le_refl _
  | c :: r => by
    have := badN_le r
    unfold badN
    split <;> simp <;> omega
theorem ite_all {α : Type} {P : α → Prop} {c : Prop} [Decidable c] {a b : α} (h1 : c → P a) (h2 : ¬ c → P b) : P (if c then a else b) := by
  by_cases h : c
  · rw [if_pos h]; exact h1 h
  · rw [if_neg h]; exact h2 h
theorem signP_pos {r : List Int} (h : (signP r).2.2 ≠ 0) : (signP r).2.2 ≤ r.length ∧ (signP r).2.2 ≤ 3 := by
  have h0 : ∀ c, 0 ≤ c → pkL r 0 = c → 1 ≤ r.length := fun c hc e => pkL_pos (by omega)
  have h1 : ∀ c, 0 ≤ c → pkL r 1 = c → 2 ≤ r.length := fun c hc e => pkL_pos (by omega)
  have h2 : ∀ c, 0 ≤ c → pkL r 2 = c → 3 ≤ r.length := fun c hc e => pkL_pos (by omega)
  revert h
  unfold signP
  refine ite_all (P := fun s : Int × List Int × Nat => s.2.2 ≠ 0 → s.2.2 ≤ r.length ∧ s.2.2 ≤ 3) (fun hc _ => ⟨h2 _ (by omega) hc.2.2, by simp⟩) (fun _ => ?_)
  refine ite_all (P := fun s : Int × List Int × Nat => s.2.2 ≠ 0 → s.2.2 ≤ r.length ∧ s.2.2 ≤ 3) (fun hc _ => ⟨h1 _ (by omega) hc.2, by simp⟩) (fun _ => ?_)
  refine ite_all (P := fun s : Int × List Int × Nat => s.2.2 ≠ 0 → s.2.2 ≤ r.length ∧ s.2.2 ≤ 3) (fun hc _ => ⟨h1 _ (by omega) hc.2, by simp⟩) (fun _ => ?_)
  refine ite_all (P := fun s : Int × List Int × Nat => s.2.2 ≠ 0 → s.2.2 ≤ r.length ∧ s.2.2 ≤ 3) (fun hc _ => ⟨h1 _ (by omega) hc.2, by simp⟩) (fun _ => ?_)
  refine ite_all (P := fun s : Int × List Int × Nat => s.2.2 ≠ 0 → s.2.2 ≤ r.length ∧ s.2.2 ≤ 3) (fun hc _ => ⟨h1 _ (by omega) hc.2, by simp⟩) (fun _ => ?_)
  refine ite_all (P := fun s : Int × List Int × Nat => s.2.2 ≠ 0 → s.2.2 ≤ r.length ∧ s.2.2 ≤ 3) (fun hc _ => ⟨h1 _ (by omega) hc.2, by simp⟩) (fun _ => ?_)
  refine ite_all (P := fun s : Int × List Int × Nat => s.2.2 ≠ 0 → s.2.2 ≤ r.length ∧ s.2.2 ≤ 3) (fun hc _ => ⟨h1 _ (by omega) hc.2, by simp⟩) (fun _ => ?_)
  refine ite_all (P := fun s : Int × List Int × Nat => s.2.2 ≠ 0 → s.2.2 ≤ r.length ∧ s.2.2 ≤ 3) (fun hc _ => ⟨h0 _ (by omega) hc, by simp⟩) (fun _ => ?_)
  refine ite_all (P := fun s : Int × List Int × Nat => s.2.2 ≠ 0 → s.2.2 ≤ r.length ∧ s.2.2 ≤ 3) (fun hc _ => ⟨h0 _ (by omega) hc, by simp⟩) (fun _ => ?_)
  refine ite_all (P := fun s : Int × List Int × Nat => s.2.2 ≠ 0 → s.2.2 ≤ r.length ∧ s.2.2 ≤ 3) (fun hc _ => ⟨h0 _ (by omega) hc, by simp⟩) (fun _ => ?_)
  refine ite_all (P := fun s : Int × List Int × Nat => s.2.2 ≠ 0 → s.2.2 ≤ r.length ∧ s.2.2 ≤ 3) (fun hc _ => ⟨h0 _ (by omega) hc, by simp⟩) (fun _ => ?_)
  refine ite_all (P := fun s : Int × List Int × Nat => s.2.2 ≠ 0 → s.2.2 ≤ r.length ∧ s.2.2 ≤ 3) (fun hc _ => ⟨h0 _ (by omega) hc, by simp⟩) (fun _ => ?_)
  refine ite_all (P := fun s : Int × List Int × Nat => s.2.2 ≠ 0 → s.2.2 ≤ r.length ∧ s.2.2 ≤ 3) (fun hc _ => ⟨h0 _ (by omega) hc.1, by simp⟩) (fun _ => ?_)
  exact fun h => absurd rfl h
theorem strF_le : ∀ (f : Nat) (r acc : List Int) (k : Nat) (a : List Int) (e : Nat), strF f r acc k = some (a, e) → k < e ∧ e ≤ k + r.length
  | 0, r, acc, k, a, e, h => by unfold strF at h; cases h
  | f + 1, [], acc, k, a, e, h => by unfold strF at h; cases h
  | f + 1, c :: r, acc, k, a, e, h => by
    unfold strF at h
    split at h
    · cases h; simp
    · split at h
      · have := strF_le f r _ _ a e h
        simp only [List.length_cons]; omega
      · split at h
        · cases h
        · rename_i hc
          have := strF_le f _ _ _ a e h
          have g := (escV_pos (r := r) (by omega)).2.2
          simp only [List.length_cons, List.length_drop] at this ⊢
          omega
theorem chN_le (r : List Int) (h : r ≠ []) : chN_ r ≤ r.length := by
  have := untilN_le (r.drop 1)
  have hl : r.length ≠ 0 := fun e => h (List.length_eq_zero_iff.1 e)
  unfold chN_
  rw [List.length_drop] at this
  omega
theorem atomK_nil : atomK [] = 0 := by decide +kernel
theorem datV_le {f : Nat} {r : List Int} {p : Nat} {k : Int} {s : List Int} {n : Bool} {l : List Int} {e : Nat} (h : datV f r p = some (k, s, n, l, e)) : p < e ∧ e ≤ p + r.length := by
  unfold datV at h
  split at h
  · rename_i hc
    have hr : 0 < r.length := pkL_pos (i := 0) (by omega)
    split at h
    · rename_i a e' hst
      split at h
      · cases h
        have := strF_le _ _ _ _ _ _ hst
        rw [List.length_drop] at this
        omega
      · cases h
    · cases h
  · split at h
    · rename_i hc
      have hr : 1 < r.length := pkL_pos (i := 1) (by omega)
      split at h
      · rename_i hv
        cases h
        have hne : r.drop 2 ≠ [] := fun e => by rw [e] at hv; exact absurd hv (by decide)
        have := chN_le _ hne
        unfold chQ
        rw [if_neg hne]
        rw [List.length_drop] at this
        have h1 : 1 ≤ chN_ (r.drop 2) := by unfold chN_; omega
        omega
      · cases h
    · split at h
      · rename_i hk
        cases h
        have := untilN_le r
        have h0 : untilN r ≠ 0 := fun e => by
          rw [e, List.take_zero, show enc [] = [] from rfl, atomK_nil] at hk
          exact hk rfl
        omega
      · cases h
theorem nextV_le {t : List Int} {p : Nat} {tok : Tok} {e : Nat} (hp : p ≤ t.length) (h : nextV t p = some (tok, e)) : p < e ∧ e ≤ t.length := by
  unfold nextV at h
  split at h
  · rename_i hs
    cases h
    have := signP_pos hs
    rw [List.length_drop] at this
    omega
  · split at h
    · rename_i k s n l e' hd
      cases h
      have := datV_le hd
      rw [List.length_drop] at this
      omega
    · cases h
theorem scanDx_ok (q : Nat) : FnDf Tryd.prog 20 [.one (.ptr 0 0 0 0), .one (.ptr 1 0 0 0), .one (.ptr 2 0 0 0)] [.g 24 [.und], .g 3 [.und], .g 25 [.und]] (some (.ifv 55 true [.int .i64 ((q : Nat) : Int)]))
    [.g 24 [.nsl 9], .g 3 [.fz (.int .i64 ((q : Nat) : Int))], .g 25 [.fz (.int .i64 3)]] := by
  have := scanDx_fn ((q : Nat) : Int) (h := [.g 24 [.nsl 9], .g 3 [.fz (.int .i64 ((q : Nat) : Int))], .g 25 [.fz (.int .i64 3)]]) ⟨fun _ => Wk.refl _, fun h => absurd h (by decide)⟩
  exact FnC.ptr3 this
theorem scanD0_ok (l : List (List FV)) : FnDf Tryd.prog 20 [.one (.ptr 0 0 0 0), .one (.ptr 1 0 0 0), .one (.ptr 2 0 0 0)] [.g 24 [.ofl 9 3], .g 3 [.fz (.int .i64 0)], .g 25 [.fz (.int .i64 0)], .f 0 9 l] none
    [.g 24 [.ofl 9 3], .g 3 [.fz (.int .i64 0)], .g 25 [.fz (.int .i64 0)], .f 0 9 l] := by
  have := scanD0_fn 0 0 l (h := [.g 24 [.ofl 9 3], .g 3 [.fz (.int .i64 0)], .g 25 [.fz (.int .i64 0)], .f 0 9 l]) ⟨fun h => absurd h (by decide), fun _ => Wk.refl _⟩
  exact FnC.ptr3 this
theorem sScan_loop (t : List Int) (hs : Scals t) (hlen : t.length ≤ 4000000) (R : TV → List Ob → Prop) (RX : FV → List Ob → Prop) : ∀ (f p : Nat) (acc : List Tok), t.length - p < f → p ≤ t.length → acc.length ≤ p → R (scT (scanL f t p acc)) [] →
    token_Scan_L0 R RX (ints .i64 t) ((p + blC false (t.drop p) : Nat) : Int) (toks acc) := by
  intro f
  induction f with
  | zero => intro p acc hf; omega
  | succ f ih =>
    intro p acc hf hp hacc hR
    have hb := blC_le false (t.drop p)
    rw [List.length_drop] at hb
    unfold scanL at hR
    generalize hq : p + blC false (t.drop p) = q at *
    refine token_Scan_l0 ?_
    unfold token_Scan_R0
    refine ⟨_, _, _, FnC.ptr1 0 (sLeft_ok t q 1 (by omega) (by omega)), fun h => ?_, fun h => ?_⟩
    · have hlt : q < t.length := of_decide_eq_true h
      rw [if_neg (by omega)] at hR
      cases hn : nextV t q with
      | none =>
        rw [hn] at hR
        exact .inl ⟨_, FnC.ptr1 0 (sNext_fx t hs hlen q hlt hn), _, _, scanDx_ok q, hR⟩
      | some te =>
        obtain ⟨tok, e⟩ := te
        rw [hn] at hR
        simp only at hR
        have hle := nextV_le (by omega) hn
        have hN := sNext_ok t hs hlen q hlt tok e hn
        obtain ⟨tk, tn, td, ta⟩ := tok
        obtain ⟨dk, dt, dn, dl, dds, da⟩ := td
        refine .inr ⟨_, _, _, _, _, _, _, _, _, _, _, FnC.ptr1 0 hN, by simp only [List.length_map, List.length_cons, List.length_nil]; omega, _, _, FnC.ptr1 0 (sBlanks_ok t (by omega) e (by omega)), ?_⟩
        have := ih e (acc ++ [⟨tk, tn, .mk dk dt dn dl dds da, ta⟩]) (by omega) (by omega) (by simp; omega) hR
        rw [← toks_snoc] at this
        exact this
    · have hge : t.length ≤ q := by have := of_decide_eq_false h; omega
      rw [if_pos hge] at hR
      exact ⟨_, _, _, scanD0_ok _, hR⟩
theorem ixScal_loop (t : List Int) (hlen : t.length ≤ 100000000) (R : TV → List Ob → Prop) (hR : R (fzI .i64 (if badN t < t.length then ((badN t : Nat) : Int) else -1)) []) : ∀ (m j : Nat), t.length - j = m → j ≤ badN t → ixScal_L0 R (ints .i64 t) j := by
  have hle := badN_le t
  intro m
  induction m with
  | zero =>
    intro j hj h
    refine ixScal_l0 ?_
    unfold ixScal_R0
    rw [ints_len]
    refine ⟨fun h => absurd (of_decide_eq_true h) (by omega), fun _ => ?_⟩
    rw [if_neg (by omega)] at hR
    exact hR
  | succ m ih =>
    intro j hj h
    have hlt : j < t.length := by omega
    refine ixScal_l0 ?_
    unfold ixScal_R0
    rw [ints_len]
    refine ⟨fun _ => ⟨by omega, rd t j, by simp [ints, some_rd hlt], _, scanFn1_ok _, fun hb => ?_, fun hb => ?_⟩, fun h => absurd (of_decide_eq_false h) (by omega)⟩
    · have : ¬ j < badN t := fun h2 => by
        have := (badN_spec t j).1 h2
        rw [this] at hb; cases hb
      have e : badN t = j := by omega
      rw [e, if_pos hlt] at hR
      exact hR
    · have hb' : scalB (rd t j) = true := by simpa using hb
      have : badN t ≠ j := fun e => by
        have := (badN_spec t j).2 (by omega)
        rw [e, hb'] at this; cases this
      rw [w64 (by omega) (by omega)]
      exact ih (j + 1) (by omega) (by omega)
theorem tScan_ok (t : List Int) (hlen : t.length ≤ 4000000) : Fn Tryd.prog 8 [fzS .i64 t] [] (scT (scanV t)) [] := by
  refine token_Scan_fn _ ?_
  obtain ⟨R, hR, hRe⟩ := exW (scT (scanV t)) []; rw [hRe]; clear hRe
  unfold scanV at hR
  unfold token_Scan_H
  refine ⟨_, ixScal_fn _ (ixScal_loop t (by omega) _ ⟨rfl, rfl⟩ _ 0 rfl (Nat.zero_le _)), ?_⟩
  by_cases hb : badN t < t.length
  · rw [if_pos hb] at hR ⊢
    exact ⟨fun _ => hR _ (Wk.refl _), fun h => absurd (of_decide_eq_false h) (by omega)⟩
  · rw [if_neg hb] at hR ⊢
    refine ⟨fun h => absurd (of_decide_eq_true h) (by omega), fun _ => ?_⟩
    exact ⟨_, _, FnC.ptr1 0 (sBlanks_ok t (by omega) 0 (by omega)), sScan_loop t (badN_scals hb) hlen R _ (t.length + 1) 0 [] (by omega) (by omega) (by simp) (hR _ (Wk.refl _))⟩
end Go.Proofs.YtejefchehdifhaaDoor.Ev
end
section
set_option linter.unusedVariables false
set_option linter.unusedSimpArgs false
namespace Go.Proofs.YtejefchehdifhaaDoor.Ev
open Go
theorem nextV_leaf {t : List Int} {p : Nat} (h : (signP (t.drop p)).2.2 = 0) : nextV t p = (datV (t.length + 1) (t.drop p) p).map fun x => (⟨7, [], lf x.1 x.2.1 x.2.2.1 x.2.2.2.1 p, p⟩, x.2.2.2.2) := by
  unfold nextV
  rw [if_neg (by omega)]
  cases datV (t.length + 1) (t.drop p) p <;> rfl
end Go.Proofs.YtejefchehdifhaaDoor.Ev
end
section
set_option linter.unusedVariables false
set_option linter.unusedSimpArgs false
namespace Go.Proofs.YtejefchehdifhaaDoor.Ev
open Go
theorem drow_at {xs : List Dt} {i : Nat} {x : Dt} (h : xs[i]? = some x) : (Dt.rows xs)[i]? = some x.row := by rw [rows_get, h]; rfl
end Go.Proofs.YtejefchehdifhaaDoor.Ev
end
section
set_option linter.unusedVariables false
set_option linter.unusedSimpArgs false
namespace Go.Proofs.YtejefchehdifhaaDoor.Ev
open Go
theorem str_eq (a b : ByteArray) : (ByteArray.toList a == ByteArray.toList b) = decide (a = b) := by
  have := eq_bytes (bs_bytes a) (bs_bytes b)
  rw [of_bs, of_bs] at this
  rw [this, decide_eq_decide]
  exact ⟨fun h => bs_inj h, fun h => by rw [h]⟩
theorem len_bne (n m : Nat) : (((n : Nat) : Int) != ((m : Nat) : Int)) = !decide (n = m) := by
  rw [Bool.eq_iff_iff]; simp [bne]; omega
mutual
def Dt.same : Dt → Dt → Bool
  | .mk k t n l xs _, .mk k' t' n' l' ys _ => decide (k = k') && (decide (t = t') && (decide (n = n' ∧ l = l') && (decide (xs.length = ys.length) && Dt.sameL xs ys)))
def Dt.sameL : List Dt → List Dt → Bool
  | [], _ => true
  | x :: xs, ys => match ys with
    | [] => true
    | y :: ys => x.same y && Dt.sameL xs ys
end
theorem sameL_cons (x y : Dt) (xs ys : List Dt) : Dt.sameL (x :: xs) (y :: ys) = (x.same y && Dt.sameL xs ys) := by simp only [Dt.sameL]
mutual
theorem same_self' : ∀ x : Dt, x.same x = true
  | .mk k t n l xs a => by
    unfold Dt.same
    rw [sameL_self xs]; simp
theorem sameL_self : ∀ xs : List Dt, Dt.sameL xs xs = true
  | [] => by simp only [Dt.sameL]
  | x :: xs => by rw [sameL_cons, same_self' x, sameL_self xs]; rfl
end
theorem rSame_loop (k : Int) (t : ByteArray) (n : Bool) (l : List Int) (a : Int) (k' : Int) (t' : ByteArray) (n' : Bool) (l' : List Int) (a' : Int) (xs ys : List Dt) (hl : xs.length ≤ 1048576) (hxy : xs.length = ys.length)
    (hp : ∀ x ∈ xs, ∀ y, Fn Tryd.prog 10 [fzD x, fzD y] [] (fzB (x.same y)) [])
    (R : TV → List Ob → Prop) (hR : R (fzB (Dt.sameL xs ys)) []) : ∀ (d j : Nat), j + d = xs.length → Dt.sameL xs ys = Dt.sameL (xs.drop j) (ys.drop j) → ref02_Same_L0 R k t n (ints .u32 l) (Dt.rows xs) a k' t' n' (ints .u32 l') (Dt.rows ys) a' j
  | 0, j, hj, h => by
    refine ref02_Same_l0 ?_
    unfold ref02_Same_R0
    rw [rows_len, dec_t, dec_f]
    refine ⟨fun h => by omega, fun _ => ?_⟩
    rw [h, List.drop_of_length_le (by omega)] at hR
    simpa only [Dt.sameL] using hR
  | d + 1, j, hj, h => by
    have hF := hp xs[j] (List.getElem_mem _) (ys[j]'(by omega))
    have hr := drow_at (List.getElem?_eq_getElem (show j < xs.length by omega))
    have hr2 := drow_at (List.getElem?_eq_getElem (show j < ys.length by omega))
    have hd : xs.drop j = xs[j] :: xs.drop (j + 1) := List.drop_eq_getElem_cons (by omega)
    have hd2 : ys.drop j = ys[j]'(by omega) :: ys.drop (j + 1) := List.drop_eq_getElem_cons (by omega)
    rw [hd, hd2, sameL_cons] at h
    generalize xs[j] = y at hF hr h
    generalize ys[j]'(by omega) = z at hF hr2 h
    obtain ⟨k1, t1, n1, l1, ys1, a1⟩ := y
    obtain ⟨k2, t2, n2, l2, ys2, a2⟩ := z
    unfold fzD at hF
    simp only [Dt.row, List.map_cons, List.map_nil] at hF hr hr2
    refine ref02_Same_l0 ?_
    unfold ref02_Same_R0
    have e : IntKind.wrap .i64 ((j : Int) + 1) = ((j + 1 : Nat) : Int) := w64 (by omega) (by omega)
    rw [rows_len, dec_t, dec_f, e]
    refine ⟨fun _ => ⟨by omega, _, _, _, _, _, _, hr, by omega, _, _, _, _, _, _, hr2, _, hF, ?_⟩, fun h => by omega⟩
    rw [not_t, not_f]
    refine ⟨fun h1 => ?_, fun h1 => ?_⟩
    · rw [h, h1, Bool.false_and] at hR; exact hR
    · exact rSame_loop k t n l a k' t' n' l' a' xs ys hl hxy hp R hR d (j + 1) (by omega) (by rw [h, h1, Bool.true_and])
mutual
theorem rSame_ok : ∀ (x y : Dt), x.ok → Fn Tryd.prog 10 [fzD x, fzD y] [] (fzB (x.same y)) []
  | .mk k t n l xs a, .mk k' t' n' l' ys a', hok => by
    unfold Dt.ok at hok
    obtain ⟨_, _, _, hl4, hxl, hxs, _⟩ := hok
    have hall := rSame_all xs hxs
    obtain ⟨R, hR, hRe⟩ := exR (fzB ((Dt.mk k t n l xs a).same (.mk k' t' n' l' ys a')))
    unfold fzD
    simp only [Dt.row, List.map_cons, List.map_nil]
    refine ref02_Same_fn _ _ _ _ _ _ _ _ _ _ _ _ ?_
    rw [hRe]
    clear hRe
    unfold ref02_Same_H
    unfold Dt.same at hR
    rw [str_eq, rows_len, rows_len, len_bne, bne_t, bne_f, not_t, not_f, dec_t, not_t, not_f]
    refine ⟨fun h => ?_, fun h => ⟨fun h2 => ?_, fun h2 => ⟨_, same_ok n n' l l' (by omega), ?_⟩⟩⟩
    · rw [decide_eq_false h, Bool.false_and] at hR; exact hR
    · rw [decide_eq_true h, h2] at hR; exact hR
    · rw [not_t, not_f]
      refine ⟨fun h3 => ?_, fun h3 => ⟨fun h4 => ?_, fun h4 => ?_⟩⟩
      · rw [decide_eq_true h, decide_eq_true h2, h3] at hR; exact hR
      · rw [decide_eq_true h, decide_eq_true h2, h3, h4] at hR; exact hR
      · rw [decide_eq_true h, decide_eq_true h2, h3, h4, Bool.true_and, Bool.true_and, Bool.true_and, Bool.true_and] at hR
        exact rSame_loop k t n l a k' t' n' l' a' xs ys hxl (of_decide_eq_true h4) hall R hR xs.length 0 (by omega) rfl
theorem rSame_all : ∀ (xs : List Dt), Dt.oks xs → ∀ x ∈ xs, ∀ y, Fn Tryd.prog 10 [fzD x, fzD y] [] (fzB (x.same y)) []
  | [], hok => fun x hx => by cases hx
  | z :: xs, hok => fun x hx y => by
    unfold Dt.oks at hok
    have h1 := rSame_ok z y hok.1
    have h2 := rSame_all xs hok.2
    rcases List.mem_cons.1 hx with rfl | hx
    · exact h1
    · exact h2 x hx y
end
end Go.Proofs.YtejefchehdifhaaDoor.Ev
end
section
set_option linter.unusedVariables false
set_option maxRecDepth 100000
namespace Go.Proofs.YtejefchehdifhaaDoor.Ev
open Go
def ref02_CharsO_lv : List Nat → Keep := lvOf [([0, 0, 1, 1, 1], ⟨49, 0, [], false, false⟩)]
def ref02_CharsO_S0 (b : List (List FV)) (at_ : Int) (o : List (List FV)) : St := (St.mk [(TV.one (AV.fz (FV.sl 1 b))), TV.und, TV.und, TV.und, (TV.one (AV.ofl 1 0)), (TV.one (AV.fz (FV.int .i64 at_))), TV.und, TV.und, TV.und, TV.und, TV.und, TV.und, TV.und, TV.und, TV.und, TV.und, TV.und, TV.und, TV.und, TV.und, TV.und, TV.und, TV.und, TV.und, TV.und, TV.und, TV.und, TV.und, TV.und] [(Ob.f 0 1 o)])
def ref02_CharsO_L0 (R : TV → List Ob → Prop) (b : List (List FV)) (at_ : Int) (o : List (List FV)) : Prop := LoopAt Tryd.prog (modeOf [] []) ref02_CharsO_lv Tryd.f11 (some 0) R [1, 1, 1, 0, 0] (ref02_CharsO_S0 b at_ o)
def ref02_CharsO_R0 (R : TV → List Ob → Prop) (b : List (List FV)) (at_ : Int) (o : List (List FV)) : Prop :=
  ((((decide (at_ < (((List.length b) : Nat) : Int))) = true) → (∃ n4 : Int, (∃ n5 : Int, ((Fn Tryd.prog 25 [(TV.one (AV.fz (FV.sl 1 b))), (TV.one (AV.fz (FV.int .i64 at_)))] [] (TV.tup [(false, [(AV.fz (FV.int .i64 n4))]), (false, [(AV.fz (FV.int .i64 n5))])]) []) ∧ ((((n5 == 0) = true) → (R (TV.tup [(false, [(AV.ofl 1 0)]), (false, [(AV.fz (FV.int .i64 at_))])]) [(Ob.f 0 1 ([] : List (List FV)))])) ∧ (((n5 == 0) = false) → (((((List.length o) + (List.length [[(FV.int .i64 n4)]])) * 8) ≤ 220000000000000) ∧ (ref02_CharsO_L0 R b (IntKind.wrap .i64 (at_ + n5)) (o ++ [[(FV.int .i64 n4)]]))))))))) ∧ (((decide (at_ < (((List.length b) : Nat) : Int))) = false) → (R (TV.tup [(false, [(AV.ofl 1 0)]), (false, [(AV.fz (FV.int .i64 (-1)))])]) [(Ob.f 0 1 o)])))
theorem ref02_CharsO_l0 {R : TV → List Ob → Prop} {b : List (List FV)} {at_ : Int} {o : List (List FV)} (h : ref02_CharsO_R0 R b at_ o) : ref02_CharsO_L0 R b at_ o :=
  LoopAt.by_tr (by kernel_rfl) (by kernel_rfl) h
def ref02_CharsO_H (R : TV → List Ob → Prop) (b : List (List FV)) : Prop :=
  (ref02_CharsO_L0 R b 0 ([] : List (List FV)))
theorem ref02_CharsO_fn (b : List (List FV)) {r : TV} {h : List Ob} (H : ref02_CharsO_H (fun r' h' => r' = r ∧ Wk h' h) b) : Fn Tryd.prog 11 [(TV.one (AV.fz (FV.sl 1 b)))] [] r h :=
  Fn.by_trW (M := (modeOf [] [])) (lv := ref02_CharsO_lv) (own := (some 0)) (F := Tryd.f11) (by kernel_rfl) (by kernel_rfl) (by first | decide | simp) (fun _ _ h => h) (by kernel_rfl) H
def law03_charsO_lv : List Nat → Keep := lvOf []
def law03_charsO_H (R : TV → List Ob → Prop) (s : ByteArray) : Prop :=
  (∃ es1 : List (List FV), (∃ n1 : Int, ((Fn Tryd.prog 11 [(TV.one (AV.fz (FV.sl 1 (List.map (fun b3 => [(FV.int .u8 (((UInt8.toNat b3) : Nat) : Int))]) (Array.toList (ByteArray.data s))))))] [] (TV.tup [(false, [(AV.ofl 1 0)]), (false, [(AV.fz (FV.int .i64 n1))])]) [(Ob.f 0 1 es1)]) ∧ (R (TV.one (AV.ofl 1 0)) [(Ob.f 0 1 es1)]))))
theorem law03_charsO_fn (s : ByteArray) {r : TV} {h : List Ob} (H : law03_charsO_H (fun r' h' => r' = r ∧ Wk h' h) s) : Fn Tryd.prog 7 [(TV.one (AV.fz (FV.str s)))] [] r h :=
  Fn.by_trW (M := (modeOf [11] [])) (lv := law03_charsO_lv) (own := (some 0)) (F := Tryd.f7) (by kernel_rfl) (by kernel_rfl) (by first | decide | simp) (fun _ _ h => h) (by kernel_rfl) H
end Go.Proofs.YtejefchehdifhaaDoor.Ev
end
section
set_option linter.unusedVariables false
set_option maxRecDepth 100000
namespace Go.Proofs.YtejefchehdifhaaDoor.Ev
open Go
def law03_answers_lv : List Nat → Keep := lvOf []
def law03_answers_H (R : TV → List Ob → Prop)  : Prop :=
  (∃ es3 : List (List FV), (∃ n6 : Int, (∃ n7 : Int, ((Fn Tryd.prog 8 [(TV.one (AV.fz (FV.sl 1 [[(FV.int .i64 40)], [(FV.int .i64 97)], [(FV.int .i64 41)]])))] [] (TV.tup [(false, [(AV.fz (FV.sl 9 es3))]), (false, [(AV.fz (FV.int .i64 n6))]), (false, [(AV.fz (FV.int .i64 n7))])]) []) ∧ ((((n7 == 0) = true) → (((((((List.length es3) : Nat) : Int) == 3) = true) → (((0 : Int) ≤ 1) ∧ (∃ n8 : Int, (∃ s2 : ByteArray, (∃ n9 : Int, (∃ s3 : ByteArray, (∃ b1 : Bool, (∃ es4 : List (List FV), (∃ es5 : List (List FV), (∃ n10 : Int, (∃ n11 : Int, (((es3)[(Int.toNat 1)]? = (some [(FV.int .i64 n8), (FV.str s2), (FV.int .i64 n9), (FV.str s3), (FV.bool b1), (FV.sl 1 es4), (FV.sl 6 es5), (FV.int .i64 n10), (FV.int .i64 n11)])) ∧ (R (TV.one (AV.fz (FV.bool ((ByteArray.toList s3) == (ByteArray.toList (ByteArray.mk #[97])))))) []))))))))))))) ∧ ((((((List.length es3) : Nat) : Int) == 3) = false) → (R (TV.one (AV.fz (FV.bool false))) [])))) ∧ (((n7 == 0) = false) → (R (TV.one (AV.fz (FV.bool false))) [])))))))
theorem law03_answers_fn  {r : TV} {h : List Ob} (H : law03_answers_H (fun r' h' => r' = r ∧ h' = h) ) : Fn Tryd.prog 9 [] [] r h :=
  Fn.by_tr (M := (modeOf [] [])) (lv := law03_answers_lv) (own := none) (F := Tryd.f9) (by kernel_rfl) (by kernel_rfl) (by first | decide | simp) (fun _ _ h => h) (by kernel_rfl) H
end Go.Proofs.YtejefchehdifhaaDoor.Ev
end
section
set_option linter.unusedVariables false
set_option linter.unusedSimpArgs false
namespace Go.Proofs.YtejefchehdifhaaDoor.Ev
open Go
theorem I64.of {n : Int} (h0 : -1000000000000000000 ≤ n) (h1 : n ≤ 1000000000000000000) : I64 n := ⟨by omega, by omega⟩
theorem lf_ok {k : Int} {s : List Int} {n : Bool} {l : List Int} {a : Int} (hk : I64 k) (hs : s.length ≤ 1048576) (hl : U32 l) (hll : l.length ≤ 1000000) (ha : I64 a) : (lf k s n l a).ok := by
  unfold lf Dt.ok
  refine ⟨hk, by rw [size_of]; exact hs, hl, by omega, by simp, ?_, ha⟩
  unfold Dt.oks; trivial
theorem atomK_in (T : List Int) : 0 ≤ atomK T ∧ atomK T ≤ 9 := by
  unfold atomK
  repeat' split
  all_goals omega
theorem atomL_in (T : List Int) : U32 (atomL T) ∧ (atomL T).length ≤ 64 := by
  unfold atomL ptL mkL
  split
  · split
    · split
      · exact ⟨Lim.nil _, by simp⟩
      · rename_i h
        refine ⟨fun x hx => ?_, digs_nine _ 64 (by omega)⟩
        have := digsB_lim _ x hx
        omega
    · exact ⟨Lim.nil _, by simp⟩
  · exact ⟨Lim.nil _, by simp⟩
theorem atomS_in (T : List Int) : (atomS T).length ≤ 64 := by
  unfold atomS
  split
  · rename_i h
    unfold atomK at h
    split at h
    · omega
    · split at h
      · omega
      · split at h
        · omega
        · split at h
          · rename_i h2
            exact h2.2.2.1
          · omega
  · simp
theorem atom_ok (T : List Int) (a : Int) (ha : I64 a) : (lf (atomK T) (atomS T) (atomN T) (atomL T) a).ok := by
  have h1 := atomK_in T
  have h2 := atomL_in T
  have h3 := atomS_in T
  exact lf_ok (I64.of (by omega) (by omega)) (by omega) h2.1 (by omega) ha
theorem nextV_ok {t : List Int} (hlen : t.length ≤ 4000000) {p : Nat} {tok : Tok} {e : Nat} (hp : p ≤ t.length) (h : nextV t p = some (tok, e)) : tok.d.ok := by
  unfold nextV at h
  split at h
  · cases h
    exact lf_ok (I64.of (by omega) (by omega)) (by simp) (Lim.nil _) (by simp) (I64.of (by omega) (by omega))
  · split at h
    · rename_i k s n l e' hd
      cases h
      unfold datV at hd
      split at hd
      · split at hd
        · rename_i a e2 hst
          split at hd
          · rename_i hl
            cases hd
            have := enc_len a
            exact lf_ok (I64.of (by omega) (by omega)) (by omega) (Lim.nil _) (by simp) (I64.of (by omega) (by omega))
          · cases hd
        · cases hd
      · split at hd
        · split at hd
          · cases hd
            have := utfB_le (chV ((t.drop p).drop 2))
            exact lf_ok (I64.of (by omega) (by omega)) (by omega) (Lim.nil _) (by simp) (I64.of (by omega) (by omega))
          · cases hd
        · split at hd
          · cases hd
            exact atom_ok _ _ (I64.of (by omega) (by omega))
          · cases hd
    · cases h
def TokOk (x : Tok) : Prop := x.d.ok
theorem scanL_ok {t : List Int} (hlen : t.length ≤ 4000000) : ∀ (f p : Nat) (acc : List Tok), p ≤ t.length → (∀ x ∈ acc, TokOk x) → acc.length ≤ p → (∀ x ∈ (scanL f t p acc).1, TokOk x) ∧ (scanL f t p acc).1.length ≤ t.length
  | 0, p, acc, hp, h, hl => ⟨fun x hx => by simp [scanL] at hx, by simp [scanL]⟩
  | f + 1, p, acc, hp, h, hl => by
    unfold scanL
    have hb := blC_le false (t.drop p)
    rw [List.length_drop] at hb
    split
    · exact ⟨h, by simp only; omega⟩
    · split
      · rename_i tok e hn
        have hle := nextV_le (by omega) hn
        refine scanL_ok hlen f e _ (by omega) (fun x hx => ?_) (by simp; omega)
        rcases List.mem_append.1 hx with hx | hx
        · exact h x hx
        · simp at hx; rw [hx]; exact nextV_ok hlen (by omega) hn
      · exact ⟨fun x hx => by simp at hx, by simp⟩
theorem scanV_ok {t : List Int} (hlen : t.length ≤ 4000000) : (∀ x ∈ (scanV t).1, TokOk x) ∧ (scanV t).1.length ≤ t.length := by
  unfold scanV
  split
  · exact ⟨fun x hx => by simp at hx, by simp⟩
  · exact scanL_ok hlen _ _ _ (by omega) (fun x hx => by cases hx) (by simp)
theorem answers3_ok : Fn Tryd.prog 9 [] [] (fzB true) [] := by
  refine law03_answers_fn ?_
  unfold law03_answers_H
  have h := tScan_ok [40, 97, 41] (by simp)
  have e : scanV [40, 97, 41] = ([⟨1, [], lf 0 [] false [] 0, 0⟩, ⟨7, [], lf 4 [97] false [] 1, 1⟩, ⟨2, [], lf 0 [] false [] 0, 2⟩], 0, 0) := by kernel_rfl
  rw [e] at h
  refine ⟨_, _, _, h, fun _ => ⟨fun _ => ⟨by omega, _, _, _, _, _, _, _, _, _, rfl, ?_, rfl⟩, fun h => absurd h (by decide)⟩, fun h => absurd h (by decide)⟩
  rw [show ((bytesOf [97]).toList == (ByteArray.mk #[97]).toList) = true from by decide +kernel]
theorem tok_get {l : List Tok} {j : Nat} (h : j < l.length) : (toks l)[Int.toNat ((j : Nat) : Int)]? = some l[j].row := by
  rw [Int.toNat_natCast]; simp [toks, h]
theorem rCharsO_loop (l : List Int) (h : Bytes l) (hlen : l.length ≤ 20000000000000) (R : TV → List Ob → Prop)
    (hR : ∀ h', Wk h' [.f 0 1 (ints .i64 (chL l))] → R (.tup [(false, [.ofl 1 0]), (false, [.fz (.int .i64 (chars l).2)])]) h') :
    ∀ (f at_ : Nat) (acc : List Int), at_ ≤ l.length → l.length - at_ < f → acc.length ≤ at_ → chs f l at_ acc = chars l → ref02_CharsO_L0 R (ints .u8 l) at_ (ints .i64 acc)
  | 0, at_, acc, h1, h2, h3, h4 => by omega
  | f + 1, at_, acc, h1, h2, h3, h4 => by
    refine ref02_CharsO_l0 ?_
    unfold ref02_CharsO_R0
    unfold chs at h4
    simp only [ints_len]
    by_cases hat : l.length ≤ at_
    · rw [if_pos hat] at h4
      refine ⟨fun h => absurd (of_decide_eq_true h) (by omega), fun _ => ?_⟩
      unfold chL at hR
      rw [← h4, if_pos rfl] at hR
      exact hR _ (Wk.refl _)
    · rw [if_neg hat] at h4
      have hne : l.drop at_ ≠ [] := fun e => by have := congrArg List.length e; simp at this; omega
      have hO := one_ok l h (by omega) at_ (by omega)
      have hbd := ch1_bounds (drop_bytes h at_) hne
      rw [List.length_drop] at hbd
      refine ⟨fun _ => ⟨_, _, hO, fun h0 => ?_, fun h0 => ⟨by simp only [List.length_cons, List.length_nil]; omega, ?_⟩⟩, fun h => absurd (of_decide_eq_false h) (by omega)⟩
      · have h0' : (ch1 (l.drop at_)).2 = 0 := by simpa using h0
        rw [if_pos h0'] at h4
        unfold chL at hR
        rw [← h4] at hR
        simp only at hR
        rw [if_neg (by omega)] at hR
        exact hR _ (Wk.refl _)
      · have h0' : (ch1 (l.drop at_)).2 ≠ 0 := by simpa using h0
        rw [if_neg h0'] at h4
        rw [w64 (by omega) (by omega), ints_snoc, show (at_ : Int) + (ch1 (l.drop at_)).2 = ((at_ + (ch1 (l.drop at_)).2.toNat : Nat) : Int) by omega]
        exact rCharsO_loop l h hlen R hR f _ _ (by omega) (by omega) (by rw [List.length_append, List.length_singleton]; omega) h4
theorem rCharsO_ok (l : List Int) (h : Bytes l) (hlen : l.length ≤ 20000000000000) : Fn Tryd.prog 11 [fzS .u8 l] [] (.tup [(false, [.ofl 1 0]), (false, [.fz (.int .i64 (chars l).2)])]) [.f 0 1 (ints .i64 (chL l))] := by
  refine ref02_CharsO_fn _ ?_
  obtain ⟨R, hR, hRe⟩ := exW (.tup [(false, [.ofl 1 0]), (false, [.fz (.int .i64 (chars l).2)])]) [.f 0 1 (ints .i64 (chL l))]; rw [hRe]; clear hRe
  unfold ref02_CharsO_H
  exact rCharsO_loop l h hlen R hR (l.length + 1) 0 [] (by omega) (by omega) (by simp) rfl
theorem charsO_ok (T : List Int) (hT : Bytes T) (hlen : T.length ≤ 16777216) : Fn Tryd.prog 7 [.one (.fz (.str (bytesOf T)))] [] (.one (.ofl 1 0)) [.f 0 1 (ints .i64 (chL T))] := by
  refine law03_charsO_fn _ ?_
  obtain ⟨R, hR, hRe⟩ := exW (.one (.ofl 1 0)) [.f 0 1 (ints .i64 (chL T))]; rw [hRe]; clear hRe
  unfold law03_charsO_H
  rw [map_bs, bs_of hT]
  exact ⟨_, _, rCharsO_ok T hT (by omega), hR _ (Wk.refl _)⟩
theorem chs_le : ∀ (f at_ : Nat) (l acc : List Int), acc.length ≤ at_ → (∀ i, l.length ≤ i → True) → Bytes l → at_ ≤ l.length → (chs f l at_ acc).1.length ≤ l.length
  | 0, at_, l, acc, h, _, hb, hl => by simp [chs]
  | f + 1, at_, l, acc, h, h9, hb, hl => by
    unfold chs
    split
    · simp only; omega
    · split
      · simp
      · rename_i h1 h2
        have hne : l.drop at_ ≠ [] := fun e => by have := congrArg List.length e; simp at this; omega
        have hbd := ch1_bounds (drop_bytes hb at_) hne
        rw [List.length_drop] at hbd
        exact chs_le f _ l _ (by rw [List.length_append, List.length_singleton]; omega) h9 hb (by omega)
theorem chL_len {l : List Int} (hb : Bytes l) : (chL l).length ≤ l.length := by
  unfold chL
  split
  · exact chs_le _ _ _ _ (by simp) (fun _ _ => trivial) hb (by omega)
  · simp
end Go.Proofs.YtejefchehdifhaaDoor.Ev
end
section
set_option linter.unusedVariables false
set_option linter.unusedSimpArgs false
namespace Go.Proofs.YtejefchehdifhaaDoor.Ev
open Go
theorem strF_shift : ∀ (f : Nat) (r acc : List Int) (k j : Nat), strF f r acc (k + j) = (strF f r acc k).map fun x => (x.1, x.2 + j)
  | 0, r, acc, k, j => by unfold strF; rfl
  | f + 1, [], acc, k, j => by unfold strF; rfl
  | f + 1, c :: r, acc, k, j => by
    unfold strF
    split
    · simp only [Option.map_some]; congr 2; omega
    · split
      · rw [show k + j + 1 = k + 1 + j by omega]; exact strF_shift f r _ _ j
      · split
        · rfl
        · rw [show k + j + 1 + (escV r).2 = k + 1 + (escV r).2 + j by omega]; exact strF_shift f _ _ _ j
theorem strF_fuel : ∀ (f f' : Nat) (r acc : List Int) (k : Nat), r.length < f → r.length < f' → strF f r acc k = strF f' r acc k
  | 0, f', r, acc, k, h, h' => by omega
  | f + 1, 0, r, acc, k, h, h' => by omega
  | f + 1, f' + 1, [], acc, k, h, h' => by unfold strF; rfl
  | f + 1, f' + 1, c :: r, acc, k, h, h' => by
    simp only [List.length_cons] at h h'
    unfold strF
    split
    · rfl
    · split
      · exact strF_fuel f f' r _ _ (by omega) (by omega)
      · split
        · rfl
        · exact strF_fuel f f' _ _ _ (by simp; omega) (by simp; omega)
structure Wd where
  kind : Int
  name : List Int
  k : Int
  s : List Int
  n : Bool
  l : List Int
  len : Nat
def Wd.tok (x : Wd) (p : Nat) : Tok := ⟨x.kind, x.name, lf x.k x.s x.n x.l (if x.kind = 7 then ((p : Nat) : Int) else 0), p⟩
def datS (r : List Int) : Option Wd := (datV (r.length + 1) r 0).map fun x => ⟨7, [], x.1, x.2.1, x.2.2.1, x.2.2.2.1, x.2.2.2.2⟩
def nextS (r : List Int) : Option Wd := if (signP r).2.2 ≠ 0 then some ⟨(signP r).1, (signP r).2.1, 0, [], false, [], (signP r).2.2⟩ else datS r
theorem datV_S (F : Nat) (r : List Int) (p : Nat) (hF : r.length < F) : datV F r p = (datV (r.length + 1) r 0).map fun x => (x.1, x.2.1, x.2.2.1, x.2.2.2.1, p + x.2.2.2.2) := by
  unfold datV
  split
  · rw [strF_fuel F (r.length + 1) (r.drop 1) [] (p + 1) (by simp; omega) (by simp; omega), show p + 1 = 0 + 1 + p by omega, strF_shift]
    cases strF (r.length + 1) (r.drop 1) [] (0 + 1) with
    | none => rfl
    | some ae =>
      obtain ⟨a, e⟩ := ae
      simp only [Option.map_some]
      split
      · simp only [Option.map_some]; congr 5; omega
      · rfl
  · split
    · split
      · simp only [Option.map_some]; congr 5; omega
      · rfl
    · split
      · simp only [Option.map_some]; congr 5; omega
      · rfl
theorem signP_kind {r : List Int} (h : (signP r).2.2 ≠ 0) : (signP r).1 ≠ 7 := by
  revert h
  unfold signP
  refine ite_all (P := fun s : Int × List Int × Nat => s.2.2 ≠ 0 → s.1 ≠ 7) (fun _ _ => by simp) (fun _ => ?_)
  refine ite_all (P := fun s : Int × List Int × Nat => s.2.2 ≠ 0 → s.1 ≠ 7) (fun _ _ => by simp) (fun _ => ?_)
  refine ite_all (P := fun s : Int × List Int × Nat => s.2.2 ≠ 0 → s.1 ≠ 7) (fun _ _ => by simp) (fun _ => ?_)
  refine ite_all (P := fun s : Int × List Int × Nat => s.2.2 ≠ 0 → s.1 ≠ 7) (fun _ _ => by simp) (fun _ => ?_)
  refine ite_all (P := fun s : Int × List Int × Nat => s.2.2 ≠ 0 → s.1 ≠ 7) (fun _ _ => by simp) (fun _ => ?_)
  refine ite_all (P := fun s : Int × List Int × Nat => s.2.2 ≠ 0 → s.1 ≠ 7) (fun _ _ => by simp) (fun _ => ?_)
  refine ite_all (P := fun s : Int × List Int × Nat => s.2.2 ≠ 0 → s.1 ≠ 7) (fun _ _ => by simp) (fun _ => ?_)
  refine ite_all (P := fun s : Int × List Int × Nat => s.2.2 ≠ 0 → s.1 ≠ 7) (fun _ _ => by simp) (fun _ => ?_)
  refine ite_all (P := fun s : Int × List Int × Nat => s.2.2 ≠ 0 → s.1 ≠ 7) (fun _ _ => by simp) (fun _ => ?_)
  refine ite_all (P := fun s : Int × List Int × Nat => s.2.2 ≠ 0 → s.1 ≠ 7) (fun _ _ => by simp) (fun _ => ?_)
  refine ite_all (P := fun s : Int × List Int × Nat => s.2.2 ≠ 0 → s.1 ≠ 7) (fun _ _ => by simp) (fun _ => ?_)
  refine ite_all (P := fun s : Int × List Int × Nat => s.2.2 ≠ 0 → s.1 ≠ 7) (fun _ _ => by simp) (fun _ => ?_)
  refine ite_all (P := fun s : Int × List Int × Nat => s.2.2 ≠ 0 → s.1 ≠ 7) (fun _ _ => by simp) (fun _ => ?_)
  exact fun h => absurd rfl h
theorem nextV_S (t : List Int) (p : Nat) (hp : p ≤ t.length) : nextV t p = (nextS (t.drop p)).map fun x => (x.tok p, p + x.len) := by
  by_cases h : (signP (t.drop p)).2.2 = 0
  · rw [nextV_leaf h, datV_S _ _ p (by simp; omega)]
    unfold nextS
    rw [if_neg (by omega)]
    unfold datS
    cases datV ((t.drop p).length + 1) (t.drop p) 0 with
    | none => rfl
    | some x => simp only [Option.map_some, Wd.tok, if_pos]
  · unfold nextV nextS
    rw [if_pos h, if_pos h]
    simp only [Option.map_some, Wd.tok]
    rw [if_neg (signP_kind h)]
def scS : Nat → List Int → Nat → Option (List Tok)
  | 0, _, _ => none
  | f + 1, r, p => if r.length ≤ blC false r then some [] else
    match nextS (r.drop (blC false r)) with
    | some x => (scS f (r.drop (blC false r + x.len)) (p + blC false r + x.len)).map (x.tok (p + blC false r) :: ·)
    | none => none
theorem nextS_len {r : List Int} {x : Wd} (h : nextS r = some x) : 0 < x.len ∧ x.len ≤ r.length := by
  have hv := nextV_S r 0 (by omega)
  rw [List.drop_zero, h] at hv
  have := nextV_le (by omega) hv
  omega
theorem scanL_S : ∀ (f : Nat) (t : List Int) (p : Nat) (acc : List Tok), p ≤ t.length → t.length - p < f → (∀ L, scS f (t.drop p) p = some L → scanL f t p acc = (acc ++ L, 0, 0)) ∧ (scS f (t.drop p) p = none → (scanL f t p acc).2.2 = 3)
  | 0, t, p, acc, hp, hf => by omega
  | f + 1, t, p, acc, hp, hf => by
    have hb := blC_le false (t.drop p)
    unfold scS scanL
    rw [List.length_drop] at hb ⊢
    by_cases hc : t.length ≤ p + blC false (t.drop p)
    · rw [if_pos (by omega), if_pos hc]
      exact ⟨fun L h => (by cases h; simp), fun h => (by cases h)⟩
    · rw [if_neg (by omega), if_neg hc, nextV_S t _ (by omega), List.drop_drop]
      cases hn : nextS (t.drop (p + blC false (t.drop p))) with
      | none => exact ⟨fun L h => (by cases h), fun _ => rfl⟩
      | some x =>
        have hx := nextS_len hn
        rw [List.length_drop] at hx
        simp only [Option.map_some]
        have ih := scanL_S f t (p + blC false (t.drop p) + x.len) (acc ++ [x.tok (p + blC false (t.drop p))]) (by omega) (by omega)
        rw [List.drop_drop, show p + (blC false (t.drop p) + x.len) = p + blC false (t.drop p) + x.len by omega]
        refine ⟨fun L h => ?_, fun h => ?_⟩
        · cases hs : scS f (t.drop (p + blC false (t.drop p) + x.len)) (p + blC false (t.drop p) + x.len) with
          | none => rw [hs] at h; cases h
          | some L' =>
            rw [hs] at h
            simp only [Option.map_some] at h
            cases h
            rw [ih.1 L' hs]
            simp
        · cases hs : scS f (t.drop (p + blC false (t.drop p) + x.len)) (p + blC false (t.drop p) + x.len) with
          | none => exact ih.2 hs
          | some L' => rw [hs] at h; cases h
theorem scS_fuel : ∀ (f f' : Nat) (r : List Int) (p : Nat), r.length < f → r.length < f' → scS f r p = scS f' r p
  | 0, f', r, p, h, h' => by omega
  | f + 1, 0, r, p, h, h' => by omega
  | f + 1, f' + 1, r, p, h, h' => by
    have hb := blC_le false r
    unfold scS
    split
    · rfl
    · split
      · rename_i x hn
        have hx := nextS_len hn
        rw [List.length_drop] at hx
        rw [scS_fuel f f' _ _ (by simp; omega) (by simp; omega)]
      · rfl
def wordsV (t : List Int) (p : Nat) : Option (List Tok) := scS (t.length + 1) t p
theorem badN_full {t : List Int} (hs : Scals t) : ¬ badN t < t.length := by
  intro h
  have h1 := (badN_spec t 0).2 h
  rw [hs.rd h] at h1; cases h1
theorem scanV_words {t : List Int} (hs : Scals t) {L : List Tok} (h : wordsV t 0 = some L) : scanV t = (L, 0, 0) := by
  unfold scanV
  rw [if_neg (badN_full hs)]
  have := (scanL_S (t.length + 1) t 0 [] (by omega) (by omega)).1 L h
  simpa using this
theorem scanV_bad {t : List Int} (hs : Scals t) (h : wordsV t 0 = none) : (scanV t).2.2 = 3 := by
  unfold scanV
  rw [if_neg (badN_full hs)]
  exact (scanL_S (t.length + 1) t 0 [] (by omega) (by omega)).2 h
theorem scanV_inv {t : List Int} (h : (scanV t).2.2 = 0) : Scals t ∧ ∃ L, wordsV t 0 = some L ∧ scanV t = (L, 0, 0) := by
  have hb : ¬ badN t < t.length := fun hb => by
    unfold scanV at h; rw [if_pos hb] at h; simp at h
  have hs := badN_scals hb
  cases hw : wordsV t 0 with
  | none => have := scanV_bad hs hw; omega
  | some L => exact ⟨hs, L, rfl, scanV_words hs hw⟩
theorem wordsV_cons {b w r : List Int} {p : Nat} {x : Wd} (hb : blC false (b ++ (w ++ r)) = b.length) (hx : nextS (w ++ r) = some x) (hl : x.len = w.length) : wordsV (b ++ (w ++ r)) p = (wordsV r (p + b.length + w.length)).map (x.tok (p + b.length) :: ·) := by
  have hpos := nextS_len hx
  unfold wordsV
  rw [scS, hb]
  rw [if_neg (by simp at hpos ⊢; omega), List.drop_left, hx]
  simp only
  rw [hl, show b.length + w.length = (b ++ w).length by simp, ← List.append_assoc, List.drop_left]
  rw [scS_fuel ((b ++ w ++ r).length) (r.length + 1) r _ (by rw [hl] at hpos; simp; omega) (by omega)]
end Go.Proofs.YtejefchehdifhaaDoor.Ev
end
section
set_option linter.unusedVariables false
set_option linter.unusedSimpArgs false
namespace Go.Proofs.YtejefchehdifhaaDoor.Ev
open Go
theorem ch1_take {l : List Int} (hl : Bytes l) (hne : l ≠ []) (h : (ch1 l).2 ≠ 0) : l.take (ch1 l).2.toNat = utfB (ch1 l).1 := by
  have b0 := rd_byte hl 0; have b1 := rd_byte hl 1; have b2 := rd_byte hl 2; have b3 := rd_byte hl 3
  have hbd := ch1_bounds hl hne
  have t1 : 1 ≤ l.length → l.take 1 = [rd l 0] := fun h => by
    rw [show l = rd l 0 :: l.drop 1 from by have := drop_rd' l 0 (by omega); simpa using this]; rfl
  have tk : ∀ n, n < l.length → l.take (n + 1) = l.take n ++ [rd l n] := fun n h => by rw [List.take_add_one, some_rd h]; rfl
  have hl1 : 1 ≤ l.length := by have : l.length ≠ 0 := fun e => hne (List.length_eq_zero_iff.1 e); omega
  generalize hp : ch1 l = p at *
  unfold ch1 chN at hp
  unfold utfB
  by_cases c1 : rd l 0 < 128
  · rw [if_pos c1] at hp
    subst hp
    simp only
    rw [if_pos c1]
    exact t1 hl1
  · rw [if_neg c1] at hp
    by_cases c2 : 192 ≤ rd l 0 ∧ rd l 0 < 224
    · rw [if_pos c2] at hp
      split at hp
      · rename_i hc
        subst hp
        simp only
        rw [if_neg (by omega), if_pos (by omega), show Int.toNat 2 = 1 + 1 from rfl, tk 1 (by omega), t1 hl1]
        simp only [List.cons_append, List.nil_append, List.cons.injEq, and_true]
        omega
      · subst hp; exact absurd rfl h
    · rw [if_neg c2] at hp
      by_cases c3 : 224 ≤ rd l 0 ∧ rd l 0 < 240
      · rw [if_pos c3] at hp
        split at hp
        · rename_i hc
          subst hp
          simp only
          rw [if_neg (by omega), if_neg (by omega), if_pos (by omega), show Int.toNat 3 = 1 + 1 + 1 from rfl, tk (1 + 1) (by omega), tk 1 (by omega), t1 hl1]
          simp only [List.cons_append, List.nil_append, List.cons.injEq, and_true, Nat.reduceAdd]
          omega
        · subst hp; exact absurd rfl h
      · rw [if_neg c3] at hp
        split at hp
        · split at hp
          · rename_i hc
            subst hp
            simp only
            rw [if_neg (by omega), if_neg (by omega), if_neg (by omega), show Int.toNat 4 = 1 + 1 + 1 + 1 from rfl, tk (1 + 1 + 1) (by omega), tk (1 + 1) (by omega), tk 1 (by omega), t1 hl1]
            simp only [List.cons_append, List.nil_append, List.cons.injEq, and_true, Nat.reduceAdd]
            omega
          · subst hp; exact absurd rfl h
        · subst hp; exact absurd rfl h
end Go.Proofs.YtejefchehdifhaaDoor.Ev
end
section
set_option linter.unusedVariables false
set_option linter.unusedSimpArgs false
namespace Go.Proofs.YtejefchehdifhaaDoor.Ev
open Go
theorem utfB_ne (c : Int) : utfB c ≠ [] := by
  unfold utfB
  repeat' split
  all_goals simp
theorem chs_back : ∀ (f at_ : Nat) (l acc : List Int), Bytes l → at_ ≤ l.length → l.length - at_ < f → (chs f l at_ acc).2 = -1 → ∃ X, (chs f l at_ acc).1 = acc ++ X ∧ enc X = l.drop at_ ∧ Scals X
  | 0, at_, l, acc, hb, hl, hf, h => by omega
  | f + 1, at_, l, acc, hb, hl, hf, h => by
    unfold chs at h ⊢
    by_cases hc : l.length ≤ at_
    · rw [if_pos hc]
      exact ⟨[], by simp, by rw [List.drop_eq_nil_of_le hc]; rfl, by intro c hc; cases hc⟩
    · rw [if_neg hc] at h ⊢
      have hne : l.drop at_ ≠ [] := fun e => by have := congrArg List.length e; simp at this; omega
      have hbd := ch1_bounds (drop_bytes hb at_) hne
      rw [List.length_drop] at hbd
      by_cases h0 : (ch1 (l.drop at_)).2 = 0
      · rw [if_pos h0] at h
        simp only at h
        omega
      · rw [if_neg h0] at h ⊢
        obtain ⟨X, h1, h2, h3⟩ := chs_back f _ l (acc ++ [(ch1 (l.drop at_)).1]) hb (by omega) (by omega) h
        have ht := ch1_take (drop_bytes hb at_) hne h0
        refine ⟨(ch1 (l.drop at_)).1 :: X, by rw [h1]; simp, ?_, ?_⟩
        · rw [enc_cons, h2, ← ht, ← List.drop_drop, List.take_append_drop]
        · intro c hc'
          rcases List.mem_cons.1 hc' with rfl | hc'
          · exact ch1_scal (drop_bytes hb at_) hne h0
          · exact h3 c hc'
theorem chars_back {T : List Int} (hT : Bytes T) (h : (chars T).2 = -1) : enc (chars T).1 = T ∧ Scals (chars T).1 := by
  obtain ⟨X, h1, h2, h3⟩ := chs_back (T.length + 1) 0 T [] hT (by omega) (by omega) h
  have e : (chars T).1 = X := by unfold chars; rw [h1]; simp
  rw [e]
  exact ⟨by simpa using h2, h3⟩
theorem semN_app : ∀ (h r : List Int) (n : Nat), (∀ x ∈ h, x ≠ 59) → h.length < n → semN n (h ++ 59 :: r) = h.length
  | [], r, 0, hx, hn => by omega
  | [], r, n + 1, hx, hn => by unfold semN; rfl
  | c :: h, r, 0, hx, hn => by omega
  | c :: h, r, n + 1, hx, hn => by
    rw [List.cons_append]
    unfold semN
    rw [if_neg (hx c List.mem_cons_self), semN_app h r n (fun x hm => hx x (List.mem_cons_of_mem _ hm)) (by simp at hn; omega)]
    rfl
theorem pkL_app {h : List Int} (x : Int) (r : List Int) : pkL (h ++ x :: r) h.length = x := by
  rw [pkL_lt (by simp)]
  unfold rd
  simp
end Go.Proofs.YtejefchehdifhaaDoor.Ev
end
section
set_option linter.unusedVariables false
set_option linter.unusedSimpArgs false
namespace Go.Proofs.YtejefchehdifhaaDoor.Ev
open Go
def sg3 (a b c : Int) : Int × List Int × Nat :=
  if a = 35 ∧ b = 44 ∧ c = 64 then (6, [117, 110, 115, 121, 110, 116, 97, 120, 45, 115, 112, 108, 105, 99, 105, 110, 103], 3)
  else if a = 35 ∧ b = 44 then (6, [117, 110, 115, 121, 110, 116, 97, 120], 2)
  else if a = 35 ∧ b = 39 then (6, [115, 121, 110, 116, 97, 120], 2)
  else if a = 35 ∧ b = 96 then (6, [113, 117, 97, 115, 105, 115, 121, 110, 116, 97, 120], 2)
  else if a = 35 ∧ b = 59 then (5, [], 2)
  else if a = 35 ∧ b = 40 then (3, [], 2)
  else if a = 44 ∧ b = 64 then (6, [117, 110, 113, 117, 111, 116, 101, 45, 115, 112, 108, 105, 99, 105, 110, 103], 2)
  else if a = 44 then (6, [117, 110, 113, 117, 111, 116, 101], 1)
  else if a = 39 then (6, [113, 117, 111, 116, 101], 1)
  else if a = 96 then (6, [113, 117, 97, 115, 105, 113, 117, 111, 116, 101], 1)
  else if a = 40 then (1, [], 1)
  else if a = 41 then (2, [], 1)
  else if a = 46 ∧ (b < 0 ∨ endsB b = true) then (4, [], 1)
  else (0, [], 0)
theorem signP_3 (r : List Int) : signP r = sg3 (pkL r 0) (pkL r 1) (pkL r 2) := rfl
theorem sg3_1 {a b c b' c' : Int} (h : (sg3 a b c).2.2 = 1) (hb : b' = b ∨ b' = 32) : sg3 a b' c' = sg3 a b c := by
  have e32 : endsB 32 = true := by decide
  unfold sg3 at h ⊢
  by_cases a1 : a = 35
  · subst a1
    simp only [true_and, show ¬ (35 : Int) = 44 by omega, show ¬ (35 : Int) = 39 by omega, show ¬ (35 : Int) = 96 by omega, show ¬ (35 : Int) = 40 by omega, show ¬ (35 : Int) = 41 by omega, show ¬ (35 : Int) = 46 by omega, false_and, if_false] at h
    by_cases h1 : b = 44 ∧ c = 64
    · rw [if_pos h1] at h; simp at h
    rw [if_neg h1] at h
    by_cases h2 : b = 44
    · rw [if_pos h2] at h; simp at h
    rw [if_neg h2] at h
    by_cases h3 : b = 39
    · rw [if_pos h3] at h; simp at h
    rw [if_neg h3] at h
    by_cases h4 : b = 96
    · rw [if_pos h4] at h; simp at h
    rw [if_neg h4] at h
    by_cases h5 : b = 59
    · rw [if_pos h5] at h; simp at h
    rw [if_neg h5] at h
    by_cases h6 : b = 40
    · rw [if_pos h6] at h; simp at h
    rw [if_neg h6] at h; simp at h
  · simp only [a1, false_and, if_false] at h ⊢
    by_cases a2 : a = 44
    · subst a2
      simp only [true_and, if_true] at h ⊢
      by_cases h1 : b = 64
      · rw [if_pos h1] at h; simp at h
      · have h2 : ¬ b' = 64 := by omega
        rw [if_neg h1, if_neg h2]
    · simp only [a2, false_and, if_false] at h ⊢
      by_cases a3 : a = 39
      · simp [a3]
      · by_cases a4 : a = 96
        · simp [a4]
        · by_cases a5 : a = 40
          · simp [a5]
          · by_cases a6 : a = 41
            · simp [a6]
            · simp only [a3, a4, a5, a6, if_false] at h ⊢
              by_cases h1 : a = 46 ∧ (b < 0 ∨ endsB b = true)
              · have h2 : a = 46 ∧ (b' < 0 ∨ endsB b' = true) := by
                  refine ⟨h1.1, ?_⟩
                  rcases hb with rfl | rfl
                  · exact h1.2
                  · exact .inr e32
                rw [if_pos h1, if_pos h2]
              · rw [if_neg h1] at h; simp at h
theorem sg3_2 {a b c c' : Int} (h : (sg3 a b c).2.2 = 2) (hc : c' = c ∨ c' = 32) : sg3 a b c' = sg3 a b c := by
  unfold sg3 at h ⊢
  by_cases h1 : a = 35 ∧ b = 44 ∧ c = 64
  · rw [if_pos h1] at h; simp at h
  · have h2 : ¬ (a = 35 ∧ b = 44 ∧ c' = 64) := by omega
    rw [if_neg h1, if_neg h2]
theorem sg3_0 {a b c : Int} (h : a ≠ 44 ∧ a ≠ 39 ∧ a ≠ 96 ∧ a ≠ 40 ∧ a ≠ 41) (h2 : a = 35 → b ≠ 44 ∧ b ≠ 39 ∧ b ≠ 96 ∧ b ≠ 59 ∧ b ≠ 40) (h3 : a = 46 → ¬ (b < 0 ∨ endsB b = true)) : sg3 a b c = (0, [], 0) := by
  unfold sg3
  rw [if_neg (fun x => (h2 x.1).1 x.2.1), if_neg (fun x => (h2 x.1).1 x.2), if_neg (fun x => (h2 x.1).2.1 x.2), if_neg (fun x => (h2 x.1).2.2.1 x.2), if_neg (fun x => (h2 x.1).2.2.2.1 x.2), if_neg (fun x => (h2 x.1).2.2.2.2 x.2), if_neg (fun x => h.1 x.1), if_neg h.1, if_neg h.2.1, if_neg h.2.2.1, if_neg h.2.2.2.1, if_neg h.2.2.2.2, if_neg (fun x => h3 x.1 x.2)]
def Fol (R R' : List Int) : Prop := R'.head? = R.head? ∨ R'.head? = some 32
theorem Fol.pk {R R' : List Int} (h : Fol R R') : pkL R' 0 = pkL R 0 ∨ pkL R' 0 = 32 := by
  unfold Fol at h
  cases R' with
  | nil =>
    cases R with
    | nil => exact .inl rfl
    | cons c R => simp at h
  | cons d R' =>
    cases R with
    | nil => simp at h; right; rw [pkL_zero]; exact h
    | cons c R => rw [pkL_zero, pkL_zero]; simpa using h
theorem pkL_left {w : List Int} (R : List Int) {i : Nat} (h : i < w.length) : pkL (w ++ R) i = pkL w i := by
  rw [pkL_lt (by simp; omega), pkL_lt h]
  unfold rd
  simp [List.getElem?_append_left h]
theorem pkL_right (w R : List Int) (i : Nat) : pkL (w ++ R) (w.length + i) = pkL R i := by
  have := pkL_drop (w ++ R) w.length i
  rw [List.drop_left] at this
  exact this.symm
theorem untilN_fol {w R R' : List Int} (h : untilN (w ++ R) = w.length) (hf : Fol R R') : untilN (w ++ R') = w.length := by
  induction w with
  | nil =>
    rw [List.nil_append] at h ⊢
    cases R' with
    | nil => rfl
    | cons d R' =>
      have hd : endsB d = true := by
        unfold Fol at hf
        rcases hf with hf | hf
        · cases R with
          | nil => simp at hf
          | cons c R =>
            have hcd : d = c := by simpa using hf
            unfold untilN at h
            split at h
            · rename_i hc; rw [hcd]; exact hc
            · simp at h
        · have : d = 32 := by simpa using hf
          rw [this]; decide
      unfold untilN
      rw [if_pos hd]; rfl
  | cons c w ih =>
    rw [List.cons_append] at h ⊢
    unfold untilN at h ⊢
    split at h
    · simp at h
    · rename_i hc
      rw [if_neg hc, ih (by simpa using h)]; rfl
theorem untilN_in {w R : List Int} (h : untilN (w ++ R) = w.length) : ∀ x ∈ w, endsB x = false := by
  induction w with
  | nil => intro x hx; cases hx
  | cons c w ih =>
    rw [List.cons_append] at h
    unfold untilN at h
    split at h
    · simp at h
    · rename_i hc
      intro x hx
      rcases List.mem_cons.1 hx with rfl | hx
      · simpa using hc
      · exact ih (by simpa using h) x hx
theorem take_split {r r' : List Int} {n : Nat} (h : r'.take n = r.take n) {m : Nat} (hm : m ≤ n) : r'.take m = r.take m := by
  have := congrArg (List.take m) h
  rwa [List.take_take, List.take_take, Nat.min_eq_left hm] at this
theorem drop_take' {r r' : List Int} {n : Nat} (h : r'.take n = r.take n) (m k : Nat) (hmk : m + k ≤ n) : (r'.drop m).take k = (r.drop m).take k := by
  have := congrArg (fun l => (l.drop m).take k) h
  simp only [List.drop_take, List.take_take] at this
  rwa [Nat.min_eq_left (by omega)] at this
theorem semN_take : ∀ (n : Nat) (r : List Int), ∀ x ∈ r.take (semN n r), x ≠ 59
  | 0, r => by intro x hx; simp [semN] at hx
  | n + 1, [] => by intro x hx; simp [semN] at hx
  | n + 1, c :: r => by
    intro x hx
    unfold semN at hx
    split at hx
    · simp at hx
    · rename_i hc
      rcases List.mem_cons.1 (by simpa using hx) with rfl | hx
      · exact hc
      · exact semN_take n r x hx
theorem cons_of_pk {r : List Int} {c : Int} (h : pkL r 0 = c) (hc : 0 ≤ c) : ∃ r1, r = c :: r1 := by
  cases r with
  | nil => rw [pkL_ge (by simp)] at h; omega
  | cons x r1 => rw [pkL_zero] at h; exact ⟨r1, by rw [h]⟩
theorem escV_pre {r r' : List Int} (h : 0 ≤ (escV r).1) (ht : r'.take (escV r).2 = r.take (escV r).2) : escV r' = escV r := by
  have hlen := (escV_pos h).2.2
  by_cases c : pkL r 0 = 120
  · obtain ⟨e1, e2⟩ := escV_hex c
    rw [e1] at h
    rw [e2 h] at ht hlen
    obtain ⟨r1, hr1⟩ := cons_of_pk c (by omega)
    have hd : r.drop 1 = r1 := by rw [hr1]; rfl
    rw [hd] at h ht hlen e2
    have hv : pkL r1 (semN 7 r1) = 59 ∧ 0 ≤ hexV (enc (r1.take (semN 7 r1))) := by
      unfold hxV at h
      split at h
      · rename_i h59; exact ⟨h59, h⟩
      · omega
    have hs0 : semN 7 r1 ≠ 0 := fun e => by
      have h2 := hv.2
      rw [e, List.take_zero, show enc [] = [] from rfl, hexV_nil] at h2; omega
    have hs7 : semN 7 r1 < 7 := by
      rcases Nat.lt_or_ge (semN 7 r1) 7 with h7 | h7
      · exact h7
      · exfalso
        have hle := (semN_le 7 r1).2
        have hl2 : (enc (r1.take (semN 7 r1))).length ≥ 7 := by
          have : ∀ X : List Int, X.length ≤ (enc X).length := fun X => by
            induction X with
            | nil => simp
            | cons x X ih =>
              have : (utfB x).length ≠ 0 := fun e => utfB_ne x (List.length_eq_zero_iff.1 e)
              rw [enc_cons, List.length_append, List.length_cons]; omega
          have := this (r1.take (semN 7 r1))
          rw [List.length_take] at this
          omega
        have := hv.2
        unfold hexV at this
        rw [if_neg (by omega)] at this
        omega
    have hQ : hxQ r1 = semN 7 r1 + 1 := by unfold hxQ; rw [if_pos ⟨hv.1, hs0⟩]
    have hlt := pkL_pos (r := r1) (i := semN 7 r1) (by omega)
    have hdec : r1 = r1.take (semN 7 r1) ++ 59 :: r1.drop (semN 7 r1 + 1) := by
      have h1 := List.take_append_drop (semN 7 r1) r1
      rw [drop_rd' r1 _ hlt] at h1
      rw [pkL_lt hlt] at hv
      rw [hv.1] at h1
      exact h1.symm
    rw [hQ] at ht hlen
    have hr : r.take (1 + (semN 7 r1 + 1)) = 120 :: (r1.take (semN 7 r1) ++ [59]) := by
      rw [hr1, show 1 + (semN 7 r1 + 1) = (semN 7 r1 + 1) + 1 by omega, List.take_succ_cons]
      congr 1
      rw [List.take_add_one, some_rd hlt]
      rw [pkL_lt hlt] at hv
      rw [hv.1]; rfl
    have hr' : r' = 120 :: (r1.take (semN 7 r1) ++ 59 :: r'.drop (1 + (semN 7 r1 + 1))) := by
      have h1 := List.take_append_drop (1 + (semN 7 r1 + 1)) r'
      rw [ht, hr] at h1
      rw [← h1]
      have hl3 : (120 :: (r1.take (semN 7 r1) ++ [59])).length = 1 + (semN 7 r1 + 1) := by
        have := (semN_le 7 r1).2
        simp; omega
      rw [← hl3, List.drop_left]
      simp
    have key : ∀ Y : List Int, escV (120 :: (r1.take (semN 7 r1) ++ 59 :: Y)) = (hexV (enc (r1.take (semN 7 r1))), semN 7 r1 + 2) := fun Y => by
      have hlt2 : (r1.take (semN 7 r1)).length = semN 7 r1 := by have := (semN_le 7 r1).2; simp; omega
      have hsm := semN_app (r1.take (semN 7 r1)) Y 7 (semN_take 7 r1) (by omega)
      rw [hlt2] at hsm
      have hp := pkL_app (h := r1.take (semN 7 r1)) 59 Y
      rw [hlt2] at hp
      unfold escV
      rw [pkL_zero]
      simp only
      rw [if_neg (by omega), if_neg (by omega), if_neg (by omega), if_neg (by omega), if_neg (by omega), if_pos trivial]
      have e2 : (120 :: (r1.take (semN 7 r1) ++ 59 :: Y)).drop 1 = r1.take (semN 7 r1) ++ 59 :: Y := rfl
      have e3 : (r1.take (semN 7 r1) ++ 59 :: Y).take (semN 7 r1) = r1.take (semN 7 r1) := by
        have := List.take_left' (l₁ := r1.take (semN 7 r1)) (l₂ := 59 :: Y) hlt2
        exact this
      rw [e2, hsm, hp, if_pos rfl, e3]
    rw [hr', hr1, key]
    conv => rhs; rw [hdec]
    rw [key]
  ·
    have h1 : (escV r).2 = 1 ∧ ∀ s : List Int, pkL s 0 = pkL r 0 → escV s = escV r := by
      have hsame : ∀ s : List Int, pkL s 0 = pkL r 0 → escV s = escV r := fun s hs => by
        unfold escV
        rw [hs]
        simp only
        rw [if_neg c, if_neg c]
      refine ⟨?_, hsame⟩
      unfold escV at h ⊢
      simp only at h ⊢
      rw [if_neg c] at h ⊢
      revert h
      repeat' split
      all_goals first | (intro _; rfl) | (intro h; exact absurd h (by decide))
    rw [h1.1] at ht hlen
    refine h1.2 r' ?_
    cases r with
    | nil => simp at hlen
    | cons x r =>
      cases r' with
      | nil => simp at ht
      | cons y r' => rw [pkL_zero, pkL_zero]; simpa using ht
theorem strF_pre : ∀ (f : Nat) (r acc : List Int) (k : Nat) (a : List Int) (e : Nat), strF f r acc k = some (a, e) → ∀ (r' : List Int) (f' : Nat), r'.take (e - k) = r.take (e - k) → r'.length < f' → strF f' r' acc k = some (a, e)
  | 0, r, acc, k, a, e, h, r', f', ht, hf => by unfold strF at h; cases h
  | f + 1, [], acc, k, a, e, h, r', f', ht, hf => by unfold strF at h; cases h
  | f + 1, c :: r, acc, k, a, e, h, r', 0, ht, hf => by omega
  | f + 1, c :: r, acc, k, a, e, h, r', f' + 1, ht, hf => by
    have hle := strF_le _ _ _ _ _ _ h
    cases r' with
    | nil =>
      rw [show e - k = (e - k - 1) + 1 by omega] at ht
      simp at ht
    | cons d r' =>
      rw [show e - k = (e - k - 1) + 1 by omega, List.take_succ_cons, List.take_succ_cons, List.cons.injEq] at ht
      obtain ⟨rfl, ht⟩ := ht
      simp only [List.length_cons] at hf
      unfold strF at h ⊢
      split
      · rename_i hc
        rw [if_pos hc] at h; exact h
      · rename_i hc
        rw [if_neg hc] at h
        split
        · rename_i hc2
          rw [if_pos hc2] at h
          exact strF_pre f r _ _ a e h r' f' (by rw [show e - (k + 1) = e - k - 1 by omega]; exact ht) (by omega)
        · rename_i hc2
          rw [if_neg hc2] at h
          by_cases hv : (escV r).1 < 0
          · rw [if_pos hv] at h; cases h
          · rw [if_neg hv] at h
            have hle2 := strF_le _ _ _ _ _ _ h
            have hev := escV_pre (r := r) (r' := r') (by omega) (take_split ht (by omega))
            rw [hev, if_neg hv]
            exact strF_pre f _ _ _ a e h _ f' (by rw [show e - (k + 1 + (escV r).2) = e - k - 1 - (escV r).2 by omega]; exact drop_take' ht _ _ (by omega)) (by simp; omega)
theorem chN_fol {c : Int} {v R R' : List Int} (h : chN_ (c :: v ++ R) = v.length + 1) (hf : Fol R R') : chN_ (c :: v ++ R') = v.length + 1 := by
  unfold chN_ at h ⊢
  have e : ∀ X : List Int, (c :: v ++ X).drop 1 = v ++ X := fun X => rfl
  rw [e] at h ⊢
  rw [untilN_fol (w := v) (R := R) (by omega) hf]; omega
theorem nextS_fol {w R R' : List Int} {x : Wd} (hs : Scals w) (h : nextS (w ++ R) = some x) (hl : x.len = w.length) (hf : Fol R R') : nextS (w ++ R') = some x := by
  have hpos := nextS_len h
  have hpk := hf.pk
  by_cases hsg : (signP (w ++ R)).2.2 = 0
  · unfold nextS at h
    rw [if_neg (by omega)] at h
    unfold datS at h
    have hw : ∃ c v, w = c :: v := by
      cases w with
      | nil => simp at hl; omega
      | cons c v => exact ⟨c, v, rfl⟩
    obtain ⟨c, v, rfl⟩ := hw
    have leaf : ∀ Y, signP (c :: v ++ R') = (0, [], 0) → datV ((c :: v ++ R').length + 1) (c :: v ++ R') 0 = some Y → datV ((c :: v ++ R).length + 1) (c :: v ++ R) 0 = some Y → nextS (c :: v ++ R') = some x := fun Y hsg' h1 h2 => by
      unfold nextS datS
      rw [hsg']
      simp only
      rw [if_neg (by simp), h1]
      rw [h2] at h
      exact h
    cases hd : datV ((c :: v ++ R).length + 1) (c :: v ++ R) 0 with
    | none => rw [hd] at h; cases h
    | some Y =>
      have hY : Y.2.2.2.2 = v.length + 1 := by
        rw [hd] at h
        simp only [Option.map_some, Option.some.injEq] at h
        rw [← h] at hl
        simpa using hl
      rw [hd] at leaf
      refine leaf Y ?_ ?_ rfl
      all_goals clear leaf h
      · rw [signP_3] at hsg
        have z : pkL (c :: v ++ R) 0 = c := pkL_zero _ _
        have z' : pkL (c :: v ++ R') 0 = c := pkL_zero _ _
        rw [z] at hsg
        rw [signP_3, z']
        unfold datV at hd
        rw [z] at hd
        by_cases c1 : c = 34
        · subst c1
          exact sg3_0 ⟨by omega, by omega, by omega, by omega, by omega⟩ (fun h => by omega) (fun h => by omega)
        rw [if_neg c1] at hd
        by_cases c2 : c = 35 ∧ pkL (c :: v ++ R) 1 = 92
        · have hv : ∃ v', v = 92 :: v' := by
            rw [if_pos c2] at hd
            split at hd
            · cases hd
              simp only at hY
              cases v with
              | nil => simp at hY; omega
              | cons y v' =>
                refine ⟨v', ?_⟩
                have := c2.2
                rw [List.cons_append, pkL_succ, List.cons_append, pkL_zero] at this
                rw [this]
            · cases hd
          obtain ⟨v', rfl⟩ := hv
          have z1 : pkL (c :: 92 :: v' ++ R') 1 = 92 := by rw [List.cons_append, pkL_succ]; exact pkL_zero _ _
          rw [z1, c2.1]
          exact sg3_0 ⟨by omega, by omega, by omega, by omega, by omega⟩ (fun _ => by omega) (fun h => by omega)
        · rw [if_neg c2] at hd
          split at hd
          · rename_i hk
            cases hd
            simp only [Nat.zero_add] at hY
            have hin := untilN_in (w := c :: v) (R := R) (by simpa using hY)
            have hce := hin c List.mem_cons_self
            have hv : v ≠ [] ∨ (c ≠ 35 ∧ c ≠ 46) := by
              by_cases hvn : v = []
              · right
                rw [hY, hvn] at hk
                have hc0 := hs c List.mem_cons_self
                obtain ⟨q0, q1, _⟩ := scal_in hc0
                have e : ((c :: [] ++ R).take (([] : List Int).length + 1)) = [c] := rfl
                rw [e] at hk
                refine ⟨fun e => ?_, fun e => ?_⟩
                · rw [e] at hk; exact hk (by decide +kernel)
                · rw [e] at hk; exact hk (by decide +kernel)
              · exact .inl hvn
            have ne : c ≠ 44 ∧ c ≠ 39 ∧ c ≠ 96 ∧ c ≠ 40 ∧ c ≠ 41 := by
              unfold endsB at hce
              rw [decide_eq_false_iff_not] at hce
              omega
            rcases hv with hv | hv
            · cases v with
              | nil => exact absurd rfl hv
              | cons y v' =>
                have hye := hin y (by simp)
                have hy0 := (scal_in (hs y (by simp))).1
                have z1 : pkL (c :: y :: v' ++ R') 1 = y := by rw [List.cons_append, pkL_succ]; exact pkL_zero _ _
                have z2 : pkL (c :: y :: v' ++ R) 1 = y := by rw [List.cons_append, pkL_succ]; exact pkL_zero _ _
                rw [z1]
                rw [z2] at hsg
                have hye' := hye
                unfold endsB at hye'
                rw [decide_eq_false_iff_not] at hye'
                refine sg3_0 ne (fun _ => ⟨by omega, by omega, by omega, by omega, by omega⟩) (fun _ hx => ?_)
                rcases hx with hx | hx
                · omega
                · rw [hye] at hx; cases hx
            · exact sg3_0 ne (fun h => absurd h hv.1) (fun h => absurd h hv.2)
          · cases hd
      · have z : pkL (c :: v ++ R) 0 = c := pkL_zero _ _
        have z' : pkL (c :: v ++ R') 0 = c := pkL_zero _ _
        have e1 : ∀ X : List Int, (c :: v ++ X).drop 1 = v ++ X := fun X => rfl
        unfold datV at hd ⊢
        rw [z] at hd
        rw [z']
        by_cases c1 : c = 34
        · rw [if_pos c1] at hd ⊢
          rw [e1] at hd ⊢
          cases hst : strF ((c :: v ++ R).length + 1) (v ++ R) [] (0 + 1) with
          | none => rw [hst] at hd; cases hd
          | some ae =>
            obtain ⟨a, e⟩ := ae
            rw [hst] at hd
            have he : e = v.length + 1 := by
              simp only at hd
              split at hd
              · cases hd; simpa using hY
              · cases hd
            have := strF_pre _ _ _ _ _ _ hst (v ++ R') ((c :: v ++ R').length + 1) (by rw [he, show v.length + 1 - (0 + 1) = v.length by omega, List.take_left, List.take_left]) (by simp; omega)
            rw [this]
            exact hd
        rw [if_neg c1] at hd ⊢
        by_cases c2 : c = 35 ∧ pkL (c :: v ++ R) 1 = 92
        · rw [if_pos c2] at hd
          split at hd
          · rename_i hv0
            cases hd
            simp only [Nat.zero_add] at hY
            have hv : ∃ y u, v = 92 :: y :: u := by
              cases v with
              | nil => simp at hY; omega
              | cons y v' =>
                have h92 := c2.2
                rw [List.cons_append, pkL_succ, List.cons_append, pkL_zero] at h92
                cases v' with
                | nil =>
                  exfalso
                  have hd2 : (c :: y :: [] ++ R).drop 2 = R := rfl
                  rw [hd2] at hY hv0
                  unfold chQ chN_ at hY
                  split at hY
                  · rename_i hR
                    rw [hR] at hv0
                    exact absurd hv0 (by decide)
                  · simp at hY
                | cons z2 u => exact ⟨z2, u, by rw [h92]⟩
            obtain ⟨y, u, rfl⟩ := hv
            have d1 : ∀ X : List Int, (c :: 92 :: y :: u ++ X).drop 2 = y :: u ++ X := fun X => rfl
            rw [d1] at hY hv0
            have c2' : c = 35 ∧ pkL (c :: 92 :: y :: u ++ R') 1 = 92 := ⟨c2.1, by rw [List.cons_append, pkL_succ]; exact pkL_zero _ _⟩
            have q : ∀ X : List Int, chQ (y :: u ++ X) = chN_ (y :: u ++ X) := fun X => by unfold chQ; rw [if_neg (by simp)]
            rw [q] at hY
            have hN : chN_ (y :: u ++ R) = u.length + 1 := by
              have e0 : (92 :: y :: u).length = u.length + 2 := rfl
              rw [e0] at hY
              omega
            have hN' := chN_fol hN hf
            have tk : ∀ X : List Int, (y :: u ++ X).take (u.length + 1) = y :: u := fun X => by
              have := List.take_left' (l₁ := y :: u) (l₂ := X) (by simp : (y :: u).length = u.length + 1)
              exact this
            have hV : chV (y :: u ++ R') = chV (y :: u ++ R) := by
              unfold chV chB
              rw [if_neg (by simp), if_neg (by simp), hN, hN', tk, tk]
            rw [if_pos c2', d1, d1, hV, if_pos hv0, q, q, hN, hN']
          · cases hd
        · rw [if_neg c2] at hd
          have c2' : ¬ (c = 35 ∧ pkL (c :: v ++ R') 1 = 92) := by
            intro hx
            refine c2 ⟨hx.1, ?_⟩
            have h1 := hx.2
            cases v with
            | nil =>
              have e : ∀ X : List Int, pkL (c :: [] ++ X) 1 = pkL X 0 := fun X => pkL_succ _ _ _
              rw [e] at h1 ⊢
              rcases hpk with hp | hp
              · rw [← hp]; exact h1
              · omega
            | cons y v' =>
              have e : ∀ X : List Int, pkL (c :: y :: v' ++ X) 1 = y := fun X => by rw [List.cons_append, pkL_succ]; exact pkL_zero _ _
              rw [e] at h1 ⊢
              exact h1
          rw [if_neg c2']
          split at hd
          · rename_i hk
            cases hd
            simp only [Nat.zero_add] at hY
            have hU : untilN (c :: v ++ R) = (c :: v).length := by simpa using hY
            have hU' := untilN_fol hU hf
            have tk : ∀ X : List Int, (c :: v ++ X).take (c :: v).length = c :: v := fun X => List.take_left
            rw [hU, tk] at hk
            rw [hU', hU, tk, tk, if_pos hk]
          · cases hd
  ·
    unfold nextS at h
    rw [if_pos hsg] at h
    have hlen : (signP (w ++ R)).2.2 = w.length := by
      simp only [Option.some.injEq] at h
      rw [← h] at hl
      exact hl
    have same : signP (w ++ R') = signP (w ++ R) := by
      have h3 := (signP_pos hsg).2
      rw [hlen] at h3 hsg
      rw [signP_3] at hlen
      rw [signP_3, signP_3]
      have l0 : ∀ X : List Int, pkL (w ++ X) 0 = pkL w 0 := fun X => pkL_left X (by omega)
      rw [l0] at hlen ⊢
      rw [l0]
      rcases (by omega : w.length = 1 ∨ w.length = 2 ∨ w.length = 3) with h1 | h1 | h1
      · have r1 : ∀ X : List Int, pkL (w ++ X) 1 = pkL X 0 := fun X => by have := pkL_right w X 0; rwa [h1] at this
        rw [r1] at hlen ⊢
        rw [r1]
        rw [h1] at hlen
        exact sg3_1 hlen hpk
      · have r1 : ∀ X : List Int, pkL (w ++ X) 1 = pkL w 1 := fun X => pkL_left X (by omega)
        have r2 : ∀ X : List Int, pkL (w ++ X) 2 = pkL X 0 := fun X => by have := pkL_right w X 0; rwa [h1] at this
        rw [r1, r2] at hlen ⊢
        rw [r1, r2]
        rw [h1] at hlen
        exact sg3_2 hlen hpk
      · have r1 : ∀ X : List Int, pkL (w ++ X) 1 = pkL w 1 := fun X => pkL_left X (by omega)
        have r2 : ∀ X : List Int, pkL (w ++ X) 2 = pkL w 2 := fun X => pkL_left X (by omega)
        rw [r1, r2, r1, r2]
    unfold nextS
    rw [same, if_pos hsg]
    exact h
theorem blC_t (c : Int) (r : List Int) : blC true (c :: r) = if c = 10 then blC false r + 1 else blC true r + 1 := rfl
theorem blC_f (c : Int) (r : List Int) : blC false (c :: r) = if blankB c = true then blC false r + 1 else if c = 59 then blC true r + 1 else 0 := rfl
theorem blC_cut : ∀ (m : Bool) (r X : List Int), blC m r < r.length → blC m (r.take (blC m r) ++ X) = blC m r + blC false X
  | m, [], X, h => by simp at h
  | true, c :: r, X, h => by
    rw [blC_t] at h ⊢
    by_cases hc : c = 10
    · rw [if_pos hc] at h ⊢
      rw [List.take_succ_cons, List.cons_append, blC_t, if_pos hc, blC_cut false r X (by simp at h; omega)]; omega
    · rw [if_neg hc] at h ⊢
      rw [List.take_succ_cons, List.cons_append, blC_t, if_neg hc, blC_cut true r X (by simp at h; omega)]; omega
  | false, c :: r, X, h => by
    rw [blC_f] at h ⊢
    by_cases hb : blankB c = true
    · rw [if_pos hb] at h ⊢
      rw [List.take_succ_cons, List.cons_append, blC_f, if_pos hb, blC_cut false r X (by simp at h; omega)]; omega
    · rw [if_neg hb] at h ⊢
      by_cases hc : c = 59
      · rw [if_pos hc] at h ⊢
        rw [List.take_succ_cons, List.cons_append, blC_f, if_neg hb, if_pos hc, blC_cut true r X (by simp at h; omega)]; omega
      · rw [if_neg hc]
        simp
theorem blC_comment : ∀ (C Y : List Int), (∀ c ∈ C, c ≠ 10) → blC true (C ++ 10 :: 9 :: Y) = C.length + 2 + blC false Y
  | [], Y, h => by
    show blC true (10 :: 9 :: Y) = _
    rw [blC, if_pos rfl, blC, if_pos (by decide)]
    simp only [List.length_nil]; omega
  | c :: C, Y, h => by
    rw [List.cons_append, blC, if_neg (h c List.mem_cons_self), blC_comment C Y (fun x hx => h x (List.mem_cons_of_mem _ hx))]
    simp only [List.length_cons]; omega
def moreT (C : List Int) : List Int := 32 :: 59 :: (C ++ [10, 9])
theorem moreT_len (C : List Int) : (moreT C).length = C.length + 4 := by simp [moreT]
theorem blC_more {C : List Int} (h : ∀ c ∈ C, c ≠ 10) (Y : List Int) : blC false (moreT C ++ Y) = (moreT C).length + blC false Y := by
  have e : moreT C ++ Y = 32 :: 59 :: (C ++ 10 :: 9 :: Y) := by simp [moreT]
  rw [e, blC, if_pos (by decide), blC, if_neg (by decide), if_pos rfl, blC_comment C Y h, moreT_len]
  omega
def Tok.sh (s : Nat) (x : Tok) : Tok := match x with
  | ⟨k, nm, .mk dk dt dn dl dds da, a⟩ => ⟨k, nm, .mk dk dt dn dl dds (if k = 7 then da + ((s : Nat) : Int) else da), a + s⟩
theorem tok_sh (x : Wd) (p s : Nat) : x.tok (p + s) = (x.tok p).sh s := by
  unfold Wd.tok Tok.sh lf
  simp only
  by_cases h : x.kind = 7
  · rw [if_pos h, if_pos h, if_pos h]
    congr 2
  · rw [if_neg h, if_neg h, if_neg h]
theorem scS_sh : ∀ (f : Nat) (r : List Int) (p s : Nat), scS f r (p + s) = (scS f r p).map fun L => L.map (Tok.sh s)
  | 0, r, p, s => rfl
  | f + 1, r, p, s => by
    unfold scS
    split
    · rfl
    · split
      · rename_i x hx
        rw [show p + s + blC false r + x.len = p + blC false r + x.len + s by omega, scS_sh f, show p + s + blC false r = p + blC false r + s by omega, tok_sh]
        cases scS f (r.drop (blC false r + x.len)) (p + blC false r + x.len) <;> rfl
      · rfl
theorem wordsV_sh (r : List Int) (p s : Nat) : wordsV r (p + s) = (wordsV r p).map fun L => L.map (Tok.sh s) := scS_sh _ _ _ _
theorem wordsV_inv {r : List Int} {p : Nat} {t : Tok} {L : List Tok} (h : wordsV r p = some (t :: L)) : ∃ (w R : List Int) (x : Wd), r = r.take (blC false r) ++ (w ++ R) ∧ blC false r < r.length ∧ nextS (w ++ R) = some x ∧ x.len = w.length ∧ t = x.tok (p + blC false r) ∧ wordsV R (p + blC false r + w.length) = some L := by
  unfold wordsV at h
  rw [scS] at h
  split at h
  · cases h
  · rename_i hb
    split at h
    · rename_i x hx
      have hlen := nextS_len hx
      rw [List.length_drop] at hlen
      cases hs : scS r.length (r.drop (blC false r + x.len)) (p + blC false r + x.len) with
      | none => rw [hs] at h; cases h
      | some L' =>
        rw [hs] at h
        simp only [Option.map_some, Option.some.injEq, List.cons.injEq] at h
        obtain ⟨rfl, rfl⟩ := h
        have hw : ((r.drop (blC false r)).take x.len).length = x.len := by simp; omega
        refine ⟨(r.drop (blC false r)).take x.len, r.drop (blC false r + x.len), x, ?_, by omega, ?_, hw.symm, rfl, ?_⟩
        · have e : (r.drop (blC false r)).take x.len ++ r.drop (blC false r + x.len) = r.drop (blC false r) := by
            rw [← List.drop_drop, List.take_append_drop]
          rw [e, List.take_append_drop]
        · rw [← List.drop_drop, List.take_append_drop]; exact hx
        · rw [hw]
          unfold wordsV
          rw [← hs]
          exact scS_fuel _ _ _ _ (by omega) (by simp; omega)
    · cases h
theorem wordsV_at : ∀ (L : List Tok) (r : List Int) (p : Nat), wordsV r p = some L → ∀ t ∈ L, p ≤ t.at_ ∧ t.at_ < p + r.length
  | [], r, p, h, t, ht => by cases ht
  | t0 :: L, r, p, h, t, ht => by
    obtain ⟨w, R, x, h1, h2, h3, h4, h5, h6⟩ := wordsV_inv h
    have hl := congrArg List.length h1
    have hpos := (nextS_len h3).1
    simp only [List.length_append, List.length_take] at hl
    rcases List.mem_cons.1 ht with rfl | ht
    · rw [h5]; unfold Wd.tok; simp only; omega
    · have := wordsV_at L R _ h6 t ht
      omega
theorem wordsV_more {C : List Int} (hC : ∀ c ∈ C, c ≠ 10) : ∀ (j : Nat) (L : List Tok) (r : List Int) (p : Nat), Scals r → wordsV r p = some L → ∀ (hj : j < L.length), p ≤ (L[j]).at_ ∧
    wordsV (r.take ((L[j]).at_ - p) ++ (moreT C ++ r.drop ((L[j]).at_ - p))) p = some (L.take j ++ (L.drop j).map (Tok.sh (moreT C).length))
  | j, [], r, p, hs, h, hj => by simp at hj
  | 0, t :: L, r, p, hs, h, hj => by
    obtain ⟨w, R, x, h1, h2, h3, h4, h5, h6⟩ := wordsV_inv h
    have hat : t.at_ = p + blC false r := by rw [h5]; rfl
    simp only [List.getElem_cons_zero]
    refine ⟨by omega, ?_⟩
    rw [hat, show p + blC false r - p = blC false r by omega]
    have hd : r.drop (blC false r) = w ++ R := by
      have := congrArg (List.drop (blC false r)) h1
      have hl : (r.take (blC false r)).length = blC false r := by simp; omega
      rw [List.drop_left' hl] at this
      exact this
    have hb0 : blC false (w ++ R) = 0 := by
      have := blC_cut false r (w ++ R) h2
      rw [← h1] at this
      omega
    rw [hd, ← List.append_assoc]
    have hbl : blC false ((r.take (blC false r) ++ moreT C) ++ (w ++ R)) = (r.take (blC false r) ++ moreT C).length := by
      rw [List.append_assoc, blC_cut false r _ h2, blC_more hC, hb0, List.length_append, List.length_take]
      omega
    rw [wordsV_cons hbl h3 h4]
    have hl : (r.take (blC false r) ++ moreT C).length = blC false r + (moreT C).length := by rw [List.length_append, List.length_take]; omega
    rw [hl, show p + (blC false r + (moreT C).length) + w.length = p + blC false r + w.length + (moreT C).length by omega, wordsV_sh, h6, show p + (blC false r + (moreT C).length) = p + blC false r + (moreT C).length by omega, tok_sh, ← h5]
    simp
  | j + 1, t :: L, r, p, hs, h, hj => by
    obtain ⟨w, R, x, h1, h2, h3, h4, h5, h6⟩ := wordsV_inv h
    have hj' : j < L.length := by simpa using hj
    have hsr : ∀ c ∈ r.take (blC false r) ++ (w ++ R), scalB c = true := by rw [← h1]; exact hs
    have hsw : Scals w := fun c hc => hsr c (by simp [hc])
    have hsR : Scals R := fun c hc => hsr c (by simp [hc])
    obtain ⟨i1, i2⟩ := wordsV_more hC j L R _ hsR h6 hj'
    have hin := (wordsV_at L R _ h6 _ (List.getElem_mem hj')).2
    simp only [List.getElem_cons_succ]
    have hq : (L[j]).at_ - p = blC false r + w.length + ((L[j]).at_ - (p + blC false r + w.length)) := by omega
    generalize (L[j]).at_ - (p + blC false r + w.length) = q' at *
    have hl : (r.take (blC false r)).length = blC false r := by simp; omega
    have hq' : q' < R.length ∨ R.length ≤ q' := by omega
    refine ⟨by omega, ?_⟩
    rw [hq]
    have e1 : r.take (blC false r + w.length + q') = r.take (blC false r) ++ (w ++ R.take q') := by
      have h1' := congrArg (List.take (blC false r + w.length + q')) h1
      rw [h1', List.take_append, hl, show blC false r + w.length + q' - blC false r = w.length + q' by omega, List.take_take, List.take_append]
      rw [show min (blC false r + w.length + q') (blC false r) = blC false r by omega, show w.length + q' - w.length = q' by omega, List.take_of_length_le (show w.length ≤ w.length + q' by omega)]
    have e2 : r.drop (blC false r + w.length + q') = R.drop q' := by
      have h1' := congrArg (List.drop (blC false r + w.length + q')) h1
      rw [h1', List.drop_append, hl, List.drop_eq_nil_of_le (by rw [hl]; omega), List.nil_append, show blC false r + w.length + q' - blC false r = w.length + q' by omega, List.drop_append, List.drop_eq_nil_of_le (by omega), List.nil_append, show w.length + q' - w.length = q' by omega]
    rw [e1, e2]
    have hfol : Fol R (R.take q' ++ (moreT C ++ R.drop q')) := by
      unfold Fol
      cases q' with
      | zero => right; simp [moreT]
      | succ q' =>
        cases R with
        | nil => right; simp [moreT]
        | cons c R => left; simp
    have hnx := nextS_fol hsw h3 h4 hfol
    have hb0 : blC false (w ++ R) = 0 := by
      have := blC_cut false r (w ++ R) h2
      rw [← h1] at this
      omega
    have hbn : ∀ Y : List Int, blC false (w ++ Y) = 0 := fun Y => by
      have hw := (nextS_len h3).1
      cases w with
      | nil => simp at h4; omega
      | cons c v =>
        rw [List.cons_append] at hb0 ⊢
        unfold blC at hb0 ⊢
        split at hb0
        · omega
        · rename_i hc
          split at hb0
          · omega
          · rename_i hc2
            rw [if_neg hc, if_neg hc2]
    have hbl : blC false (r.take (blC false r) ++ (w ++ (R.take q' ++ (moreT C ++ R.drop q')))) = (r.take (blC false r)).length := by
      rw [blC_cut false r _ h2, hbn, hl]
      rfl
    have e3 : r.take (blC false r) ++ (w ++ R.take q') ++ (moreT C ++ R.drop q') = r.take (blC false r) ++ (w ++ (R.take q' ++ (moreT C ++ R.drop q'))) := by simp
    rw [e3, wordsV_cons hbl hnx h4, hl, i2, ← h5]
    simp
end Go.Proofs.YtejefchehdifhaaDoor.Ev
end
