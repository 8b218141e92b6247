/-
  Part of a claim: definitions and lemmas that its theorem leans on, packed by wip/tools/pack.py.
-/
import Derived.Test.YtejefchehdifhaaGreatDoorZB4
import Derived.Test.YtejefchehdifhaaGreatDoorTie
import Derived.Test.YtejefchehdifhaaGreatDoorCards
import Derived.WalkKit
import Derived.ProofKit
import Derived.ShutString
import Derived.Lay
import Derived.Stop.Joined
import Derived.SevenTiedAt
set_option linter.unusedVariables false
set_option linter.unusedSimpArgs false
section
set_option linter.unusedVariables false
set_option maxRecDepth 100000
namespace Go.Proofs.YtejefchehdifhaaGreatDoor.Ev
open Go
def scanD0_lv : List Nat → Keep := lvOf []
def scanD0_H (R : TV → List Ob → Prop) (a : Int) (e : Int) (l : List (List FV)) : Prop :=
  ((((Bool.not (Bool.not false)) = true) → False) ∧ (((Bool.not (Bool.not false)) = false) → (R (TV.tup []) [(Ob.g 25 [(AV.ofl 9 3)]), (Ob.g 3 [(AV.fz (FV.int .i64 a))]), (Ob.g 26 [(AV.fz (FV.int .i64 e))]), (Ob.f 0 9 l)])))
theorem scanD0_fn (a : Int) (e : Int) (l : List (List FV)) {h : List Ob} (H : scanD0_H (fun _ h' => Wk h' h) a e l) : FnDf Tryz.prog 34 [(TV.one (AV.ptr 0 0 0 25)), (TV.one (AV.ptr 1 0 0 3)), (TV.one (AV.ptr 2 0 0 26))] [(Ob.g 25 [(AV.ofl 9 3)]), (Ob.g 3 [(AV.fz (FV.int .i64 a))]), (Ob.g 26 [(AV.fz (FV.int .i64 e))]), (Ob.f 0 9 l)] none h :=
  FnDf.by_trR (M := (modeOf [] [])) (lv := scanD0_lv) (own := (some 4)) (F := Tryz.f34) (by kernel_rfl) (by kernel_rfl) (by first | decide | simp) (fun _ _ h => h) (by kernel_rfl) H
def scanDx_lv : List Nat → Keep := lvOf []
def scanDx_H (R : TV → List Ob → Prop) (q : Int) : Prop :=
  ((((Bool.not false) = true) → (R (TV.tup []) [(Ob.g 25 [(AV.nsl 9)]), (Ob.g 3 [(AV.fz (FV.int .i64 q))]), (Ob.g 26 [(AV.fz (FV.int .i64 3))])])) ∧ (((Bool.not false) = false) → (R (TV.tup []) [(Ob.g 25 [AV.und]), (Ob.g 3 [AV.und]), (Ob.g 26 [AV.und])])))
theorem scanDx_fn (q : Int) {h : List Ob} (H : scanDx_H (fun _ h' => Wk h' h) q) : FnDf Tryz.prog 34 [(TV.one (AV.ptr 0 0 0 25)), (TV.one (AV.ptr 1 0 0 3)), (TV.one (AV.ptr 2 0 0 26))] [(Ob.g 25 [AV.und]), (Ob.g 3 [AV.und]), (Ob.g 26 [AV.und])] (some (FV.ifv 62 true [(FV.int .i64 q)])) h :=
  FnDf.by_trR (M := (modeOf [] [])) (lv := scanDx_lv) (own := (some 3)) (F := Tryz.f34) (by kernel_rfl) (by kernel_rfl) (by first | decide | simp) (fun _ _ h => h) (by kernel_rfl) H
def token_Scan_lv : List Nat → Keep := lvOf [([0, 1, 0, 1, 1, 1, 1], ⟨92, 0, [], false, false⟩)]
def token_Scan_S0 (es : List (List FV)) (n1 : Int) (o : List (List FV)) : St := (St.mk [TV.und, TV.und, (TV.one (AV.ptr 0 0 0 0)), (TV.one (AV.ptr 1 0 0 0)), (TV.one (AV.ptr 2 0 0 0)), TV.und, (TV.one (AV.ptr 3 0 0 0)), TV.und, TV.und, TV.und, TV.und, TV.und, TV.und, TV.und, TV.und, TV.und, TV.und, TV.und, TV.und, TV.und, TV.und, TV.und, TV.und, TV.und, TV.und, TV.und, TV.und, TV.und] [(Ob.g 25 [(AV.ofl 9 4)]), (Ob.g 3 [(AV.fz (FV.int .i64 0))]), (Ob.g 26 [(AV.fz (FV.int .i64 0))]), (Ob.g 66 [(AV.fz (FV.sl 1 es)), (AV.fz (FV.int .i64 n1))]), (Ob.f 0 9 o)])
def token_Scan_L0 (R : TV → List Ob → Prop) (RX : FV → List Ob → Prop) (es : List (List FV)) (n1 : Int) (o : List (List FV)) : Prop := LoopAtD Tryz.prog (modeX [] [(36, [(Sig.mk 1 [(false, [(AT.k CK.bool)])] [(OT.g 66 [(AT.k (CK.sl 1)), (AT.k (CK.int .i64))])] 0)]), (35, [(Sig.mk 1 [] [(OT.g 66 [(AT.k (CK.sl 1)), (AT.k (CK.int .i64))])] 0)]), (37, [(Sig.mk 1 [(true, [(AT.k (CK.int .i64)), (AT.k CK.str), (AT.k (CK.int .i64)), (AT.k CK.str), (AT.k CK.bool), (AT.k (CK.sl 1)), (AT.k (CK.sl 6)), (AT.k (CK.int .i64)), (AT.k (CK.int .i64))])] [(OT.g 66 [(AT.k (CK.sl 1)), (AT.k (CK.int .i64))])] 0)]), (34, [(Sig.mk 3 [] [(OT.g 25 [(AT.a (AV.nsl 9))]), (OT.g 3 [(AT.k (CK.int .i64))]), (OT.g 26 [(AT.k (CK.int .i64))])] 0), (Sig.mk 4 [] [(OT.g 25 [(AT.a (AV.ofl 9 3))]), (OT.g 3 [(AT.k (CK.int .i64))]), (OT.g 26 [(AT.k (CK.int .i64))]), (OT.f 0 9)] 0)])] [37] 0 RX) token_Scan_lv Tryz.f12 none R 3 [(34, [(AV.ptr 0 0 0 0), (AV.ptr 1 0 0 0), (AV.ptr 2 0 0 0)])] [1, 1, 1, 1, 0, 1, 0] (token_Scan_S0 es n1 o)
def token_Scan_R0 (R : TV → List Ob → Prop) (RX : FV → List Ob → Prop) (es : List (List FV)) (n1 : Int) (o : List (List FV)) : Prop :=
  (∃ es13 : List (List FV), (∃ n24 : Int, (∃ b4 : Bool, ((Fn Tryz.prog 36 [(TV.one (AV.ptr 0 0 0 0)), (TV.one (AV.fz (FV.int .i64 1)))] [(Ob.g 66 [(AV.fz (FV.sl 1 es)), (AV.fz (FV.int .i64 n1))])] (TV.one (AV.fz (FV.bool b4))) [(Ob.g 66 [(AV.fz (FV.sl 1 es13)), (AV.fz (FV.int .i64 n24))])]) ∧ (((b4 = true) → ((∃ v2 : FV, ((FnX Tryz.prog 37 [(TV.one (AV.ptr 0 0 0 0))] [(Ob.g 66 [(AV.fz (FV.sl 1 es13)), (AV.fz (FV.int .i64 n24))])] v2) ∧ (∃ n25 : Int, (∃ n26 : Int, ((FnDf Tryz.prog 34 [(TV.one (AV.ptr 0 0 0 0)), (TV.one (AV.ptr 1 0 0 0)), (TV.one (AV.ptr 2 0 0 0))] [(Ob.g 25 [AV.und]), (Ob.g 3 [AV.und]), (Ob.g 26 [AV.und])] (some v2) [(Ob.g 25 [(AV.nsl 9)]), (Ob.g 3 [(AV.fz (FV.int .i64 n25))]), (Ob.g 26 [(AV.fz (FV.int .i64 n26))])]) ∧ (R (TV.tup [(false, [(AV.fz (FV.sl 9 ([] : List (List FV))))]), (false, [(AV.fz (FV.int .i64 n25))]), (false, [(AV.fz (FV.int .i64 n26))])]) [])))))) ∨ (∃ es14 : List (List FV), (∃ n27 : Int, (∃ n28 : Int, (∃ s4 : ByteArray, (∃ n29 : Int, (∃ s5 : ByteArray, (∃ b5 : Bool, (∃ es15 : List (List FV), (∃ es16 : List (List FV), (∃ n30 : Int, (∃ n31 : Int, ((Fn Tryz.prog 37 [(TV.one (AV.ptr 0 0 0 0))] [(Ob.g 66 [(AV.fz (FV.sl 1 es13)), (AV.fz (FV.int .i64 n24))])] (TV.agg [(AV.fz (FV.int .i64 n28)), (AV.fz (FV.str s4)), (AV.fz (FV.int .i64 n29)), (AV.fz (FV.str s5)), (AV.fz (FV.bool b5)), (AV.fz (FV.sl 1 es15)), (AV.fz (FV.sl 6 es16)), (AV.fz (FV.int .i64 n30)), (AV.fz (FV.int .i64 n31))]) [(Ob.g 66 [(AV.fz (FV.sl 1 es14)), (AV.fz (FV.int .i64 n27))])]) ∧ (((((List.length o) + (List.length [[(FV.int .i64 n28), (FV.str s4), (FV.int .i64 n29), (FV.str s5), (FV.bool b5), (FV.sl 1 es15), (FV.sl 6 es16), (FV.int .i64 n30), (FV.int .i64 n31)]])) * 120) ≤ 220000000000000) ∧ (∃ es17 : List (List FV), (∃ n32 : Int, ((Fn Tryz.prog 35 [(TV.one (AV.ptr 0 0 0 0))] [(Ob.g 66 [(AV.fz (FV.sl 1 es14)), (AV.fz (FV.int .i64 n27))])] (TV.tup []) [(Ob.g 66 [(AV.fz (FV.sl 1 es17)), (AV.fz (FV.int .i64 n32))])]) ∧ (token_Scan_L0 R RX es17 n32 (o ++ [[(FV.int .i64 n28), (FV.str s4), (FV.int .i64 n29), (FV.str s5), (FV.bool b5), (FV.sl 1 es15), (FV.sl 6 es16), (FV.int .i64 n30), (FV.int .i64 n31)]])))))))))))))))))))) ∧ ((b4 = false) → (∃ n33 : Int, (∃ n34 : Int, (∃ es18 : List (List FV), ((FnDf Tryz.prog 34 [(TV.one (AV.ptr 0 0 0 0)), (TV.one (AV.ptr 1 0 0 0)), (TV.one (AV.ptr 2 0 0 0))] [(Ob.g 25 [(AV.ofl 9 3)]), (Ob.g 3 [(AV.fz (FV.int .i64 0))]), (Ob.g 26 [(AV.fz (FV.int .i64 0))]), (Ob.f 0 9 o)] none [(Ob.g 25 [(AV.ofl 9 3)]), (Ob.g 3 [(AV.fz (FV.int .i64 n33))]), (Ob.g 26 [(AV.fz (FV.int .i64 n34))]), (Ob.f 0 9 es18)]) ∧ (R (TV.tup [(false, [(AV.fz (FV.sl 9 es18))]), (false, [(AV.fz (FV.int .i64 n33))]), (false, [(AV.fz (FV.int .i64 n34))])]) [])))))))))))
theorem token_Scan_l0 {R : TV → List Ob → Prop} {RX : FV → List Ob → Prop} {es : List (List FV)} {n1 : Int} {o : List (List FV)} (h : token_Scan_R0 R RX es n1 o) : token_Scan_L0 R RX es n1 o :=
  LoopAtD.by_tr (by kernel_rfl) (by kernel_rfl) h
def token_Scan_H (R : TV → List Ob → Prop) (RX : FV → List Ob → Prop) (tx : List (List FV)) : Prop :=
  (∃ n24 : Int, ((Fn Tryz.prog 31 [(TV.one (AV.fz (FV.sl 1 tx))), (TV.one (AV.fz (FV.fn 32 [])))] [] (TV.one (AV.fz (FV.int .i64 n24))) []) ∧ ((((decide ((0 : Int) ≤ n24)) = true) → (R (TV.tup [(false, [(AV.fz (FV.sl 9 ([] : List (List FV))))]), (false, [(AV.fz (FV.int .i64 n24))]), (false, [(AV.fz (FV.int .i64 1))])]) [])) ∧ (((decide ((0 : Int) ≤ n24)) = false) → (∃ es13 : List (List FV), (∃ n25 : Int, ((Fn Tryz.prog 35 [(TV.one (AV.ptr 0 0 0 0))] [(Ob.g 66 [(AV.fz (FV.sl 1 tx)), (AV.fz (FV.int .i64 0))])] (TV.tup []) [(Ob.g 66 [(AV.fz (FV.sl 1 es13)), (AV.fz (FV.int .i64 n25))])]) ∧ (token_Scan_L0 R RX es13 n25 ([] : List (List FV))))))))))
theorem token_Scan_fn (tx : List (List FV)) {r : TV} {h : List Ob} (H : token_Scan_H (fun r' h' => r' = r ∧ Wk h' h) (fun _ _ => False) tx) : Fn Tryz.prog 12 [(TV.one (AV.fz (FV.sl 1 tx)))] [] r h :=
  Fn.by_trD (M := (modeX [] [(36, [(Sig.mk 1 [(false, [(AT.k CK.bool)])] [(OT.g 66 [(AT.k (CK.sl 1)), (AT.k (CK.int .i64))])] 0)]), (35, [(Sig.mk 1 [] [(OT.g 66 [(AT.k (CK.sl 1)), (AT.k (CK.int .i64))])] 0)]), (37, [(Sig.mk 1 [(true, [(AT.k (CK.int .i64)), (AT.k CK.str), (AT.k (CK.int .i64)), (AT.k CK.str), (AT.k CK.bool), (AT.k (CK.sl 1)), (AT.k (CK.sl 6)), (AT.k (CK.int .i64)), (AT.k (CK.int .i64))])] [(OT.g 66 [(AT.k (CK.sl 1)), (AT.k (CK.int .i64))])] 0)]), (34, [(Sig.mk 3 [] [(OT.g 25 [(AT.a (AV.nsl 9))]), (OT.g 3 [(AT.k (CK.int .i64))]), (OT.g 26 [(AT.k (CK.int .i64))])] 0), (Sig.mk 4 [] [(OT.g 25 [(AT.a (AV.ofl 9 3))]), (OT.g 3 [(AT.k (CK.int .i64))]), (OT.g 26 [(AT.k (CK.int .i64))]), (OT.f 0 9)] 0)])] [37] 0 (fun _ _ => False))) (lv := token_Scan_lv) (own := none) (n := 3) (F := Tryz.f12) (by kernel_rfl) (by kernel_rfl) (by first | decide | simp) (by kernel_rfl) H
def ixScal_lv : List Nat → Keep := lvOf [([0, 1, 0, 1], ⟨387, 0, [], false, false⟩)]
def ixScal_S0 (s : List (List FV)) (i : Int) : St := (St.mk [(TV.one (AV.fz (FV.sl 1 s))), (TV.one (AV.fz (FV.fn 32 []))), TV.und, TV.und, TV.und, TV.und, TV.und, (TV.one (AV.fz (FV.int .i64 (((List.length s) : Nat) : Int)))), (TV.one (AV.fz (FV.int .i64 i))), TV.und, TV.und, TV.und, TV.und, TV.und, TV.und, TV.und, TV.und, TV.und, TV.und] [])
def ixScal_L0 (R : TV → List Ob → Prop) (s : List (List FV)) (i : Int) : Prop := LoopAt Tryz.prog (modeOf [] []) ixScal_lv Tryz.f31 none R [1, 0, 1, 0] (ixScal_S0 s i)
def ixScal_R0 (R : TV → List Ob → Prop) (s : List (List FV)) (i : Int) : Prop :=
  ((((decide (i < (((List.length s) : Nat) : Int))) = true) → (((0 : Int) ≤ i) ∧ (∃ n2 : Int, (((s)[(Int.toNat i)]? = (some [(FV.int .i64 n2)])) ∧ (∃ b2 : Bool, ((Fn Tryz.prog 32 [(TV.one (AV.fz (FV.int .i64 n2)))] [] (TV.one (AV.fz (FV.bool b2))) []) ∧ (((b2 = true) → (R (TV.one (AV.fz (FV.int .i64 i))) [])) ∧ ((b2 = false) → (ixScal_L0 R s (IntKind.wrap .i64 (i + 1))))))))))) ∧ (((decide (i < (((List.length s) : Nat) : Int))) = false) → (R (TV.one (AV.fz (FV.int .i64 (-1)))) [])))
theorem ixScal_l0 {R : TV → List Ob → Prop} {s : List (List FV)} {i : Int} (h : ixScal_R0 R s i) : ixScal_L0 R s i :=
  LoopAt.by_tr (by kernel_rfl) (by kernel_rfl) h
def ixScal_H (R : TV → List Ob → Prop) (s : List (List FV)) : Prop :=
  (ixScal_L0 R s 0)
theorem ixScal_fn (s : List (List FV)) {r : TV} {h : List Ob} (H : ixScal_H (fun r' h' => r' = r ∧ h' = h) s) : Fn Tryz.prog 31 [(TV.one (AV.fz (FV.sl 1 s))), (TV.one (AV.fz (FV.fn 32 [])))] [] r h :=
  Fn.by_tr (M := (modeOf [] [])) (lv := ixScal_lv) (own := none) (F := Tryz.f31) (by kernel_rfl) (by kernel_rfl) (by first | decide | simp) (fun _ _ h => h) (by kernel_rfl) H
end Go.Proofs.YtejefchehdifhaaGreatDoor.Ev
end
section
set_option linter.unusedVariables false
set_option linter.unusedSimpArgs false
namespace Go.Proofs.YtejefchehdifhaaGreatDoor.Ev
open Go
theorem Ty.inv_int {P : Program} {t : TypeId} {k : IntKind} {fs : List FV} (h : Ty P t fs) (hu : P.underlying t = some (.int k)) : ∃ n, fs = [.int k n] ∧ k.min ≤ n ∧ n ≤ k.max := by
  cases h <;> simp_all
theorem Ty.inv_str {P : Program} {t : TypeId} {fs : List FV} (h : Ty P t fs) (hu : P.underlying t = some .string) : ∃ s, fs = [.str s] ∧ s.size ≤ reachBytes := by
  cases h <;> simp_all
theorem Ty.inv_sl {P : Program} {t e : TypeId} {fs : List FV} (h : Ty P t fs) (hu : P.underlying t = some (.slice e)) : ∃ es, fs = [.sl (P.cellsOf e) es] ∧ es.length * P.bytesOf e ≤ reachBytes ∧ ∀ x ∈ es, Ty P e x := by
  cases h <;> simp_all
theorem Ty.inv_ints {P : Program} {t e : TypeId} {k : IntKind} {fs : List FV} (h : Ty P t fs) (hu : P.underlying t = some (.slice e)) (he : P.underlying e = some (.int k)) (hc : P.cellsOf e = 1) :
    ∃ l, fs = [.sl 1 (ints k l)] ∧ (∀ x ∈ l, k.min ≤ x ∧ x ≤ k.max) ∧ l.length * P.bytesOf e ≤ reachBytes := by
  obtain ⟨es, rfl, h1, h2⟩ := h.inv_sl hu
  have : ∃ l, es = ints k l ∧ ∀ x ∈ l, k.min ≤ x ∧ x ≤ k.max := by
    clear h1 h
    induction es with
    | nil => exact ⟨[], rfl, by simp⟩
    | cons x es ih =>
      obtain ⟨l, rfl, h3⟩ := ih fun y hy => h2 y (List.mem_cons_of_mem _ hy)
      obtain ⟨n, rfl, h4, h5⟩ := (h2 x List.mem_cons_self).inv_int he
      exact ⟨n :: l, by simp [ints], fun y hy => by
        rcases List.mem_cons.1 hy with rfl | hy
        · exact ⟨h4, h5⟩
        · exact h3 y hy⟩
  obtain ⟨l, rfl, h3⟩ := this
  exact ⟨l, by rw [hc], h3, by rwa [ints_len] at h1⟩
theorem tyV_str {t : TypeId} {x : TV} (h : TyV Tryz.prog t x) (hu : Tryz.prog.underlying t = some .string) : ∃ s : ByteArray, x = .one (.fz (.str s)) ∧ s.size ≤ 140737488355328 := by
  rcases h with ⟨fs, rfl, h, ds, hd⟩ | ⟨f, rfl, h⟩
  · rw [hu] at hd; cases hd
  · obtain ⟨s, h, h1⟩ := h.inv_str hu
    cases h
    exact ⟨s, rfl, Nat.le_trans h1 (by decide)⟩
end Go.Proofs.YtejefchehdifhaaGreatDoor.Ev
end
section
set_option linter.unusedVariables false
set_option linter.unusedSimpArgs false
namespace Go.Proofs.YtejefchehdifhaaGreatDoor.Ev
open Go
inductive Dt where
  | mk (kind : Int) (text : ByteArray) (neg : Bool) (limbs : List Int) (list : List Dt) (at_ : Int)
mutual
def Dt.row : Dt → List FV
  | .mk k t n l ds a => [.int .i64 k, .str t, .bool n, .sl 1 (ints .u32 l), .sl 6 (Dt.rows ds), .int .i64 a]
def Dt.rows : List Dt → List (List FV)
  | [] => []
  | d :: ds => d.row :: Dt.rows ds
end
abbrev fzD (d : Dt) : TV := .agg (d.row.map .fz)
theorem rows_get : ∀ (ds : List Dt) (i : Nat), (Dt.rows ds)[i]? = ds[i]?.map Dt.row
  | [], i => by simp [Dt.rows]
  | d :: ds, 0 => by simp [Dt.rows]
  | d :: ds, i + 1 => by simp [Dt.rows, rows_get ds i]
theorem rows_len (ds : List Dt) : (Dt.rows ds).length = ds.length := by
  induction ds with
  | nil => rfl
  | cons d ds ih => simp [Dt.rows, ih]
def I64 (n : Int) : Prop := -9223372036854775808 ≤ n ∧ n ≤ 9223372036854775807
mutual
def Dt.ok : Dt → Prop
  | .mk k t _ l ds a => I64 k ∧ t.size ≤ 1048576 ∧ U32 l ∧ l.length * 4 ≤ 140737488355328 ∧ ds.length ≤ 1048576 ∧ Dt.oks ds ∧ I64 a
def Dt.oks : List Dt → Prop
  | [] => True
  | d :: ds => d.ok ∧ Dt.oks ds
end
end Go.Proofs.YtejefchehdifhaaGreatDoor.Ev
end
section
set_option linter.unusedVariables false
set_option linter.unusedSimpArgs false
namespace Go.Proofs.YtejefchehdifhaaGreatDoor.Ev
open Go
structure Tok where
  kind : Int
  name : List Int
  d : Dt
  at_ : Nat
def Tok.row (x : Tok) : List FV := [.int .i64 x.kind, .str (bytesOf x.name)] ++ x.d.row ++ [.int .i64 ((x.at_ : Nat) : Int)]
def lf (k : Int) (s : List Int) (n : Bool) (l : List Int) (a : Int) : Dt := .mk k (bytesOf s) n l [] a
abbrev lfR (k : Int) (s : List Int) (n : Bool) (l : List Int) (a : Int) : List FV := [.int .i64 k, .str (bytesOf s), .bool n, .sl 1 (ints .u32 l), .sl 6 ([] : List (List FV)), .int .i64 a]
theorem lf_row (k : Int) (s : List Int) (n : Bool) (l : List Int) (a : Int) : (lf k s n l a).row = lfR k s n l a := by simp [lf, Dt.row, Dt.rows]
def signP (r : List Int) : Int × List Int × Nat :=
  if pkL r 0 = 35 ∧ pkL r 1 = 44 ∧ pkL r 2 = 64 then (6, [117, 110, 115, 121, 110, 116, 97, 120, 45, 115, 112, 108, 105, 99, 105, 110, 103], 3)
  else if pkL r 0 = 35 ∧ pkL r 1 = 44 then (6, [117, 110, 115, 121, 110, 116, 97, 120], 2)
  else if pkL r 0 = 35 ∧ pkL r 1 = 39 then (6, [115, 121, 110, 116, 97, 120], 2)
  else if pkL r 0 = 35 ∧ pkL r 1 = 96 then (6, [113, 117, 97, 115, 105, 115, 121, 110, 116, 97, 120], 2)
  else if pkL r 0 = 35 ∧ pkL r 1 = 59 then (5, [], 2)
  else if pkL r 0 = 35 ∧ pkL r 1 = 40 then (3, [], 2)
  else if pkL r 0 = 44 ∧ pkL r 1 = 64 then (6, [117, 110, 113, 117, 111, 116, 101, 45, 115, 112, 108, 105, 99, 105, 110, 103], 2)
  else if pkL r 0 = 44 then (6, [117, 110, 113, 117, 111, 116, 101], 1)
  else if pkL r 0 = 39 then (6, [113, 117, 111, 116, 101], 1)
  else if pkL r 0 = 96 then (6, [113, 117, 97, 115, 105, 113, 117, 111, 116, 101], 1)
  else if pkL r 0 = 40 then (1, [], 1)
  else if pkL r 0 = 41 then (2, [], 1)
  else if pkL r 0 = 46 ∧ (pkL r 1 < 0 ∨ endsB (pkL r 1) = true) then (4, [], 1)
  else (0, [], 0)
def datV (f : Nat) (r : List Int) (k : Nat) : Option (Int × List Int × Bool × List Int × Nat) :=
  if pkL r 0 = 34 then (match strF f (r.drop 1) [] (k + 1) with
    | some (a, e) => if a.length ≤ 4096 then some (5, enc a, false, [], e) else none
    | none => none)
  else if pkL r 0 = 35 ∧ pkL r 1 = 92 then (if 0 ≤ chV (r.drop 2) then some (6, utfB (chV (r.drop 2)), false, [], k + 2 + chQ (r.drop 2)) else none)
  else if atomK (enc (r.take (untilN r))) ≠ 0 then some (atomK (enc (r.take (untilN r))), atomS (enc (r.take (untilN r))), atomN (enc (r.take (untilN r))), atomL (enc (r.take (untilN r))), k + untilN r) else none
def nextV (t : List Int) (p : Nat) : Option (Tok × Nat) :=
  if (signP (t.drop p)).2.2 ≠ 0 then some (⟨(signP (t.drop p)).1, (signP (t.drop p)).2.1, lf 0 [] false [] 0, p⟩, p + (signP (t.drop p)).2.2)
  else match datV (t.length + 1) (t.drop p) p with
    | some (k, s, n, l, e) => some (⟨7, [], lf k s n l p, p⟩, e)
    | none => none
abbrev datT (k : Int) (s : List Int) (n : Bool) (l : List Int) (b : Bool) : TV := .tup [(true, (lfR k s n l 0).map .fz), (false, [.fz (.bool b)])]
theorem exC1 (v : TV) (h : List Ob) : ∃ R : TV → List Ob → Prop, (∀ r' h', Cool 1 r' h' v h → R r' h') ∧ (fun r' h' => Cool 1 r' h' v h) = R := ⟨_, fun _ _ h => h, rfl⟩
theorem pkL_zero (x : Int) (r : List Int) : pkL (x :: r) 0 = x := by rw [pkL_lt (by simp)]; rfl
theorem pkL_succ (x : Int) (r : List Int) (i : Nat) : pkL (x :: r) (i + 1) = pkL r i := by
  unfold pkL
  rw [List.length_cons]
  by_cases h : i < r.length
  · rw [if_pos (by omega), if_pos h]; rfl
  · rw [if_neg (by omega), if_neg h]
theorem hereB_1 (c : Int) (r : List Int) (hc : 0 ≤ c) : hereB [c] r = decide (pkL r 0 = c) := by
  cases r with
  | nil => unfold hereB; rw [pkL_ge (by simp)]; simp; omega
  | cons x r => unfold hereB hereB; rw [pkL_zero, Bool.and_true]
theorem hereB_2 (c d : Int) (r : List Int) (hc : 0 ≤ c) (hd : 0 ≤ d) : hereB [c, d] r = decide (pkL r 0 = c ∧ pkL r 1 = d) := by
  cases r with
  | nil => unfold hereB; rw [pkL_ge (by simp)]; simp; omega
  | cons x r =>
    unfold hereB
    rw [hereB_1 d r hd, pkL_zero, pkL_succ, ← Bool.decide_and]
theorem hereB_3 (c d e : Int) (r : List Int) (hc : 0 ≤ c) (hd : 0 ≤ d) (he : 0 ≤ e) : hereB [c, d, e] r = decide (pkL r 0 = c ∧ pkL r 1 = d ∧ pkL r 2 = e) := by
  cases r with
  | nil => unfold hereB; rw [pkL_ge (by simp)]; simp; omega
  | cons x r =>
    unfold hereB
    rw [hereB_2 d e r hd he, pkL_zero, pkL_succ, pkL_succ, ← Bool.decide_and]
theorem pkL_pos {r : List Int} {i : Nat} (h : 0 ≤ pkL r i) : i < r.length := by
  unfold pkL at h
  split at h
  · assumption
  · omega
theorem enc_le {t : List Int} (hlen : t.length ≤ 4000000) (p n : Nat) : (enc ((t.drop p).take n)).length ≤ 16777216 := by
  have h := enc_len ((t.drop p).take n)
  have h2 : ((t.drop p).take n).length ≤ t.length := by simp; omega
  omega
theorem sDatum_ok (t : List Int) (hs : Scals t) (hlen : t.length ≤ 4000000) (p : Nat) (hp : p < t.length) :
    ∃ k s n l b q, Fn Tryz.prog 79 [scP] (scM t p) (datT k s n l b) (scM t q) ∧ datV (t.length + 1) (t.drop p) p = if b = true then some (k, s, n, l, q) else none := by
  have hH1 := sHere_ok t hs (by omega) p (by omega) [34] (by intro x hx; simp at hx; omega) (by simp)
  have hH2 := sHere_ok t hs (by omega) p (by omega) [35, 92] (by intro x hx; simp at hx; omega) (by simp)
  rw [show bytesOf [34] = ByteArray.mk #[34] from by decide +kernel, hereB_1 _ _ (by omega)] at hH1
  rw [show bytesOf [35, 92] = ByteArray.mk #[35, 92] from by decide +kernel, hereB_2 _ _ _ (by omega) (by omega)] at hH2
  unfold datV
  by_cases c1 : pkL (t.drop p) 0 = 34
  · have hS := sStr_ok t hs (by omega) (p + 1) (by omega)
    rw [if_pos c1, List.drop_drop]
    rw [decide_eq_true c1] at hH1
    have key : ∀ (a : List Int) (b : Bool) (q : Nat), Fn Tryz.prog 105 [scP] (scM t (p + 1)) (.tup [(false, [.fz (.str (bytesOf a))]), (false, [.fz (.bool b)])]) (scM t q) →
        Fn Tryz.prog 79 [scP] (scM t p) (datT 5 a false [] b) (scM t q) := by
      intro a b q hF
      refine token_scanner_datumO_fc _ _ ?_
      obtain ⟨R, hR, hRe⟩ := exC1 (datT 5 a false [] b) (scM t q); rw [hRe]; clear hRe
      unfold token_scanner_datumO_H
      refine ⟨_, _, _, hH1, fun _ => ⟨_, _, _, _, ?_, hR _ _ ⟨rfl, Wk.refl _, rfl⟩⟩, fun h => absurd h (by decide)⟩
      rw [w64 (by omega) (by omega)]
      exact hF
    cases hst : strF (t.length + 1) (t.drop (p + 1)) [] (p + 1) with
    | none =>
      rw [hst] at hS
      exact ⟨5, [], false, [], false, _, key _ _ _ hS, rfl⟩
    | some ae =>
      obtain ⟨a, e⟩ := ae
      rw [hst, strP_some _ _ _ _ _ _ hst] at hS
      refine ⟨5, enc a, false, [], decide (a.length ≤ 4096), e, key _ _ _ hS, ?_⟩
      simp only
      by_cases hl : a.length ≤ 4096
      · rw [if_pos hl, decide_eq_true hl, if_pos rfl]
      · rw [if_neg hl, decide_eq_false hl, if_neg (by simp)]
  · rw [if_neg c1]
    rw [decide_eq_false c1] at hH1
    by_cases c2 : pkL (t.drop p) 0 = 35 ∧ pkL (t.drop p) 1 = 92
    · rw [if_pos c2]
      rw [decide_eq_true c2] at hH2
      have h2 : p + 2 ≤ t.length := by
        have := pkL_pos (r := t.drop p) (i := 1) (by omega)
        rw [List.length_drop] at this
        omega
      have hC := sChar_ok t hs hlen (p + 2) h2
      refine ⟨6, chX (t.drop (p + 2)), false, [], decide (0 ≤ chV (t.drop (p + 2))), p + 2 + chQ (t.drop (p + 2)), ?_, ?_⟩
      · refine token_scanner_datumO_fc _ _ ?_
        obtain ⟨R, hR, hRe⟩ := exC1 (datT 6 (chX (t.drop (p + 2))) false [] (decide (0 ≤ chV (t.drop (p + 2))))) (scM t (p + 2 + chQ (t.drop (p + 2)))); rw [hRe]; clear hRe
        unfold token_scanner_datumO_H
        refine ⟨_, _, _, hH1, fun h => absurd h (by decide), fun _ => ⟨_, _, _, hH2, fun _ => ⟨_, _, _, _, ?_, hR _ _ ⟨rfl, Wk.refl _, rfl⟩⟩, fun h => absurd h (by decide)⟩⟩
        rw [w64 (by omega) (by omega)]
        exact hC
      · rw [List.drop_drop]
        by_cases hv : 0 ≤ chV (t.drop (p + 2))
        · rw [if_pos hv, decide_eq_true hv, if_pos rfl]
          have : chX (t.drop (p + 2)) = utfB (chV (t.drop (p + 2))) := by
            unfold chX
            rw [if_neg (fun e => by rw [e] at hv; exact absurd hv (by decide)), if_pos hv]
          rw [this]
        · rw [if_neg hv, decide_eq_false hv, if_neg (by simp)]
    · rw [if_neg c2]
      rw [decide_eq_false c2] at hH2
      have hW := sWhile_ok t hs (by omega) p 0 (by omega)
      rw [Nat.add_zero, Nat.zero_add] at hW
      have hbB : Bytes (enc ((t.drop p).take (untilN (t.drop p)))) := enc_bytes ((hs.drop p).take _)
      have hA := tAtom_ok (enc ((t.drop p).take (untilN (t.drop p)))) hbB (enc_le hlen _ _)
      refine ⟨atomK (enc ((t.drop p).take (untilN (t.drop p)))), atomS (enc ((t.drop p).take (untilN (t.drop p)))), atomN (enc ((t.drop p).take (untilN (t.drop p)))), atomL (enc ((t.drop p).take (untilN (t.drop p)))), decide (atomK (enc ((t.drop p).take (untilN (t.drop p)))) ≠ 0), p + untilN (t.drop p), ?_, ?_⟩
      · refine token_scanner_datumO_fc _ _ ?_
        obtain ⟨R, hR, hRe⟩ := exC1 (datT (atomK (enc ((t.drop p).take (untilN (t.drop p))))) (atomS (enc ((t.drop p).take (untilN (t.drop p))))) (atomN (enc ((t.drop p).take (untilN (t.drop p))))) (atomL (enc ((t.drop p).take (untilN (t.drop p))))) (decide (atomK (enc ((t.drop p).take (untilN (t.drop p)))) ≠ 0))) (scM t (p + untilN (t.drop p))); rw [hRe]; clear hRe
        unfold token_scanner_datumO_H
        exact ⟨_, _, _, hH1, fun h => absurd h (by decide), fun _ => ⟨_, _, _, hH2, fun h => absurd h (by decide), fun _ => ⟨_, _, _, hW, _, _, _, _, _, _, _, hA, hR _ _ ⟨rfl, Wk.refl _, rfl⟩⟩⟩⟩
      · by_cases hk : atomK (enc ((t.drop p).take (untilN (t.drop p)))) ≠ 0
        · rw [if_pos hk, decide_eq_true hk, if_pos rfl]
        · rw [if_neg hk, decide_eq_false hk, if_neg (by simp)]
theorem sNext_H (t : List Int) (hs : Scals t) (hlen : t.length ≤ 4000000) (p : Nat) (hp : p < t.length) (R : TV → List Ob → Prop) (RX : FV → List Ob → Prop)
    (hR : ∀ tok q, nextV t p = some (tok, q) → ∀ r' h', Cool 1 r' h' (.agg (tok.row.map .fz)) (scM t q) → R r' h')
    (hX : nextV t p = none → RX (.ifv 62 true [.int .i64 ((p : Nat) : Int)]) (shH (scM t p))) :
    token_scanner_nextO_H R RX (ints .i64 t) ((p : Nat) : Int) := by
  have hpL : ∀ i, pkL (t.drop p) i = pkL t (p + i) := fun i => pkL_drop t p i
  have sg : ∀ (k : Int) (nm : List Int) (n : Nat), signP (t.drop p) = (k, nm, n) → n ≠ 0 → ∀ r' h', Cool 1 r' h' (.agg ([.int .i64 k, .str (bytesOf nm), .int .i64 0, .str (ByteArray.mk #[]), .bool false, .sl 1 ([] : List (List FV)), .sl 6 ([] : List (List FV)), .int .i64 0, .int .i64 ((p : Nat) : Int)].map .fz)) (scM t (p + n)) → R r' h' := by
    intro k nm n hsg hn r' h' hc
    have : nextV t p = some (⟨k, nm, lf 0 [] false [] 0, p⟩, p + n) := by
      unfold nextV; rw [hsg]; simp only; rw [if_pos hn]
    refine hR _ _ this r' h' ?_
    unfold Tok.row
    rw [lf_row]
    exact hc
  have kinds_ : ∀ (c : Int), pkL (t.drop p) 0 = c → pkL (t.drop p) 0 = c := fun _ h => h
  unfold token_scanner_nextO_H
  have w0 := sHere_ok t hs (by omega) p (by omega) [35, 44, 64] (by intro x hx; simp at hx; omega) (by simp)
  rw [show bytesOf [35, 44, 64] = ByteArray.mk #[35, 44, 64] from by decide +kernel, hereB_3 35 44 64 _ (by omega) (by omega) (by omega)] at w0
  refine token_scanner_nextO_l0 ?_
  unfold token_scanner_nextO_R0
  refine ⟨fun _ => ⟨⟨by omega, by omega⟩, ByteArray.mk #[35, 44, 64], 6, ByteArray.mk #[117, 110, 115, 121, 110, 116, 97, 120, 45, 115, 112, 108, 105, 99, 105, 110, 103], rfl, _, _, _, w0, fun h => ?_, fun h => ?_⟩, fun h => absurd h (by decide)⟩
  · have h := of_decide_eq_true h
    refine sg 6 [117, 110, 115, 121, 110, 116, 97, 120, 45, 115, 112, 108, 105, 99, 105, 110, 103] 3 ?_ (by decide) _ _ ?_
    · unfold signP
      first | (simp only [h]; rfl) | (simp [h]; done) | (simp [h]; omega)
    · rw [show bytesOf [117, 110, 115, 121, 110, 116, 97, 120, 45, 115, 112, 108, 105, 99, 105, 110, 103] = ByteArray.mk #[117, 110, 115, 121, 110, 116, 97, 120, 45, 115, 112, 108, 105, 99, 105, 110, 103] from by decide +kernel, w64 (by have : ((ByteArray.size (ByteArray.mk #[35, 44, 64]) : Nat) : Int) = 3 := rfl; omega) (by have : ((ByteArray.size (ByteArray.mk #[35, 44, 64]) : Nat) : Int) = 3 := rfl; omega)]
      exact ⟨rfl, Wk.refl _, rfl⟩
  have g0 := of_decide_eq_false h
  clear h w0
  rw [w64 (by omega) (by omega)]
  have w1 := sHere_ok t hs (by omega) p (by omega) [35, 40] (by intro x hx; simp at hx; omega) (by simp)
  rw [show bytesOf [35, 40] = ByteArray.mk #[35, 40] from by decide +kernel, hereB_2 35 40 _ (by omega) (by omega)] at w1
  refine token_scanner_nextO_l0 ?_
  unfold token_scanner_nextO_R0
  refine ⟨fun _ => ⟨⟨by omega, by omega⟩, ByteArray.mk #[35, 40], 3, ByteArray.mk #[], rfl, _, _, _, w1, fun h => ?_, fun h => ?_⟩, fun h => absurd h (by decide)⟩
  · have h := of_decide_eq_true h
    refine sg 3 [] 2 ?_ (by decide) _ _ ?_
    · unfold signP
      first | (simp only [h]; rfl) | (simp [h]; done) | (simp [h]; omega)
    · rw [show bytesOf [] = ByteArray.mk #[] from by decide +kernel, w64 (by have : ((ByteArray.size (ByteArray.mk #[35, 40]) : Nat) : Int) = 2 := rfl; omega) (by have : ((ByteArray.size (ByteArray.mk #[35, 40]) : Nat) : Int) = 2 := rfl; omega)]
      exact ⟨rfl, Wk.refl _, rfl⟩
  have g1 := of_decide_eq_false h
  clear h w1
  rw [w64 (by omega) (by omega)]
  have w2 := sHere_ok t hs (by omega) p (by omega) [35, 59] (by intro x hx; simp at hx; omega) (by simp)
  rw [show bytesOf [35, 59] = ByteArray.mk #[35, 59] from by decide +kernel, hereB_2 35 59 _ (by omega) (by omega)] at w2
  refine token_scanner_nextO_l0 ?_
  unfold token_scanner_nextO_R0
  refine ⟨fun _ => ⟨⟨by omega, by omega⟩, ByteArray.mk #[35, 59], 5, ByteArray.mk #[], rfl, _, _, _, w2, fun h => ?_, fun h => ?_⟩, fun h => absurd h (by decide)⟩
  · have h := of_decide_eq_true h
    refine sg 5 [] 2 ?_ (by decide) _ _ ?_
    · unfold signP
      first | (simp only [h]; rfl) | (simp [h]; done) | (simp [h]; omega)
    · rw [show bytesOf [] = ByteArray.mk #[] from by decide +kernel, w64 (by have : ((ByteArray.size (ByteArray.mk #[35, 59]) : Nat) : Int) = 2 := rfl; omega) (by have : ((ByteArray.size (ByteArray.mk #[35, 59]) : Nat) : Int) = 2 := rfl; omega)]
      exact ⟨rfl, Wk.refl _, rfl⟩
  have g2 := of_decide_eq_false h
  clear h w2
  rw [w64 (by omega) (by omega)]
  have w3 := sHere_ok t hs (by omega) p (by omega) [35, 39] (by intro x hx; simp at hx; omega) (by simp)
  rw [show bytesOf [35, 39] = ByteArray.mk #[35, 39] from by decide +kernel, hereB_2 35 39 _ (by omega) (by omega)] at w3
  refine token_scanner_nextO_l0 ?_
  unfold token_scanner_nextO_R0
  refine ⟨fun _ => ⟨⟨by omega, by omega⟩, ByteArray.mk #[35, 39], 6, ByteArray.mk #[115, 121, 110, 116, 97, 120], rfl, _, _, _, w3, fun h => ?_, fun h => ?_⟩, fun h => absurd h (by decide)⟩
  · have h := of_decide_eq_true h
    refine sg 6 [115, 121, 110, 116, 97, 120] 2 ?_ (by decide) _ _ ?_
    · unfold signP
      first | (simp only [h]; rfl) | (simp [h]; done) | (simp [h]; omega)
    · rw [show bytesOf [115, 121, 110, 116, 97, 120] = ByteArray.mk #[115, 121, 110, 116, 97, 120] from by decide +kernel, w64 (by have : ((ByteArray.size (ByteArray.mk #[35, 39]) : Nat) : Int) = 2 := rfl; omega) (by have : ((ByteArray.size (ByteArray.mk #[35, 39]) : Nat) : Int) = 2 := rfl; omega)]
      exact ⟨rfl, Wk.refl _, rfl⟩
  have g3 := of_decide_eq_false h
  clear h w3
  rw [w64 (by omega) (by omega)]
  have w4 := sHere_ok t hs (by omega) p (by omega) [35, 96] (by intro x hx; simp at hx; omega) (by simp)
  rw [show bytesOf [35, 96] = ByteArray.mk #[35, 96] from by decide +kernel, hereB_2 35 96 _ (by omega) (by omega)] at w4
  refine token_scanner_nextO_l0 ?_
  unfold token_scanner_nextO_R0
  refine ⟨fun _ => ⟨⟨by omega, by omega⟩, ByteArray.mk #[35, 96], 6, ByteArray.mk #[113, 117, 97, 115, 105, 115, 121, 110, 116, 97, 120], rfl, _, _, _, w4, fun h => ?_, fun h => ?_⟩, fun h => absurd h (by decide)⟩
  · have h := of_decide_eq_true h
    refine sg 6 [113, 117, 97, 115, 105, 115, 121, 110, 116, 97, 120] 2 ?_ (by decide) _ _ ?_
    · unfold signP
      first | (simp only [h]; rfl) | (simp [h]; done) | (simp [h]; omega)
    · rw [show bytesOf [113, 117, 97, 115, 105, 115, 121, 110, 116, 97, 120] = ByteArray.mk #[113, 117, 97, 115, 105, 115, 121, 110, 116, 97, 120] from by decide +kernel, w64 (by have : ((ByteArray.size (ByteArray.mk #[35, 96]) : Nat) : Int) = 2 := rfl; omega) (by have : ((ByteArray.size (ByteArray.mk #[35, 96]) : Nat) : Int) = 2 := rfl; omega)]
      exact ⟨rfl, Wk.refl _, rfl⟩
  have g4 := of_decide_eq_false h
  clear h w4
  rw [w64 (by omega) (by omega)]
  have w5 := sHere_ok t hs (by omega) p (by omega) [35, 44] (by intro x hx; simp at hx; omega) (by simp)
  rw [show bytesOf [35, 44] = ByteArray.mk #[35, 44] from by decide +kernel, hereB_2 35 44 _ (by omega) (by omega)] at w5
  refine token_scanner_nextO_l0 ?_
  unfold token_scanner_nextO_R0
  refine ⟨fun _ => ⟨⟨by omega, by omega⟩, ByteArray.mk #[35, 44], 6, ByteArray.mk #[117, 110, 115, 121, 110, 116, 97, 120], rfl, _, _, _, w5, fun h => ?_, fun h => ?_⟩, fun h => absurd h (by decide)⟩
  · have h := of_decide_eq_true h
    refine sg 6 [117, 110, 115, 121, 110, 116, 97, 120] 2 ?_ (by decide) _ _ ?_
    · unfold signP
      first | (simp only [h]; rfl) | (simp [h]; done) | (simp [h]; omega)
    · rw [show bytesOf [117, 110, 115, 121, 110, 116, 97, 120] = ByteArray.mk #[117, 110, 115, 121, 110, 116, 97, 120] from by decide +kernel, w64 (by have : ((ByteArray.size (ByteArray.mk #[35, 44]) : Nat) : Int) = 2 := rfl; omega) (by have : ((ByteArray.size (ByteArray.mk #[35, 44]) : Nat) : Int) = 2 := rfl; omega)]
      exact ⟨rfl, Wk.refl _, rfl⟩
  have g5 := of_decide_eq_false h
  clear h w5
  rw [w64 (by omega) (by omega)]
  have w6 := sHere_ok t hs (by omega) p (by omega) [44, 64] (by intro x hx; simp at hx; omega) (by simp)
  rw [show bytesOf [44, 64] = ByteArray.mk #[44, 64] from by decide +kernel, hereB_2 44 64 _ (by omega) (by omega)] at w6
  refine token_scanner_nextO_l0 ?_
  unfold token_scanner_nextO_R0
  refine ⟨fun _ => ⟨⟨by omega, by omega⟩, ByteArray.mk #[44, 64], 6, ByteArray.mk #[117, 110, 113, 117, 111, 116, 101, 45, 115, 112, 108, 105, 99, 105, 110, 103], rfl, _, _, _, w6, fun h => ?_, fun h => ?_⟩, fun h => absurd h (by decide)⟩
  · have h := of_decide_eq_true h
    refine sg 6 [117, 110, 113, 117, 111, 116, 101, 45, 115, 112, 108, 105, 99, 105, 110, 103] 2 ?_ (by decide) _ _ ?_
    · unfold signP
      first | (simp only [h]; rfl) | (simp [h]; done) | (simp [h]; omega)
    · rw [show bytesOf [117, 110, 113, 117, 111, 116, 101, 45, 115, 112, 108, 105, 99, 105, 110, 103] = ByteArray.mk #[117, 110, 113, 117, 111, 116, 101, 45, 115, 112, 108, 105, 99, 105, 110, 103] from by decide +kernel, w64 (by have : ((ByteArray.size (ByteArray.mk #[44, 64]) : Nat) : Int) = 2 := rfl; omega) (by have : ((ByteArray.size (ByteArray.mk #[44, 64]) : Nat) : Int) = 2 := rfl; omega)]
      exact ⟨rfl, Wk.refl _, rfl⟩
  have g6 := of_decide_eq_false h
  clear h w6
  rw [w64 (by omega) (by omega)]
  have w7 := sHere_ok t hs (by omega) p (by omega) [40] (by intro x hx; simp at hx; omega) (by simp)
  rw [show bytesOf [40] = ByteArray.mk #[40] from by decide +kernel, hereB_1 40 _ (by omega)] at w7
  refine token_scanner_nextO_l0 ?_
  unfold token_scanner_nextO_R0
  refine ⟨fun _ => ⟨⟨by omega, by omega⟩, ByteArray.mk #[40], 1, ByteArray.mk #[], rfl, _, _, _, w7, fun h => ?_, fun h => ?_⟩, fun h => absurd h (by decide)⟩
  · have h := of_decide_eq_true h
    refine sg 1 [] 1 ?_ (by decide) _ _ ?_
    · unfold signP
      first | (simp only [h]; rfl) | (simp [h]; done) | (simp [h]; omega)
    · rw [show bytesOf [] = ByteArray.mk #[] from by decide +kernel, w64 (by have : ((ByteArray.size (ByteArray.mk #[40]) : Nat) : Int) = 1 := rfl; omega) (by have : ((ByteArray.size (ByteArray.mk #[40]) : Nat) : Int) = 1 := rfl; omega)]
      exact ⟨rfl, Wk.refl _, rfl⟩
  have g7 := of_decide_eq_false h
  clear h w7
  rw [w64 (by omega) (by omega)]
  have w8 := sHere_ok t hs (by omega) p (by omega) [41] (by intro x hx; simp at hx; omega) (by simp)
  rw [show bytesOf [41] = ByteArray.mk #[41] from by decide +kernel, hereB_1 41 _ (by omega)] at w8
  refine token_scanner_nextO_l0 ?_
  unfold token_scanner_nextO_R0
  refine ⟨fun _ => ⟨⟨by omega, by omega⟩, ByteArray.mk #[41], 2, ByteArray.mk #[], rfl, _, _, _, w8, fun h => ?_, fun h => ?_⟩, fun h => absurd h (by decide)⟩
  · have h := of_decide_eq_true h
    refine sg 2 [] 1 ?_ (by decide) _ _ ?_
    · unfold signP
      first | (simp only [h]; rfl) | (simp [h]; done) | (simp [h]; omega)
    · rw [show bytesOf [] = ByteArray.mk #[] from by decide +kernel, w64 (by have : ((ByteArray.size (ByteArray.mk #[41]) : Nat) : Int) = 1 := rfl; omega) (by have : ((ByteArray.size (ByteArray.mk #[41]) : Nat) : Int) = 1 := rfl; omega)]
      exact ⟨rfl, Wk.refl _, rfl⟩
  have g8 := of_decide_eq_false h
  clear h w8
  rw [w64 (by omega) (by omega)]
  have w9 := sHere_ok t hs (by omega) p (by omega) [39] (by intro x hx; simp at hx; omega) (by simp)
  rw [show bytesOf [39] = ByteArray.mk #[39] from by decide +kernel, hereB_1 39 _ (by omega)] at w9
  refine token_scanner_nextO_l0 ?_
  unfold token_scanner_nextO_R0
  refine ⟨fun _ => ⟨⟨by omega, by omega⟩, ByteArray.mk #[39], 6, ByteArray.mk #[113, 117, 111, 116, 101], rfl, _, _, _, w9, fun h => ?_, fun h => ?_⟩, fun h => absurd h (by decide)⟩
  · have h := of_decide_eq_true h
    refine sg 6 [113, 117, 111, 116, 101] 1 ?_ (by decide) _ _ ?_
    · unfold signP
      first | (simp only [h]; rfl) | (simp [h]; done) | (simp [h]; omega)
    · rw [show bytesOf [113, 117, 111, 116, 101] = ByteArray.mk #[113, 117, 111, 116, 101] from by decide +kernel, w64 (by have : ((ByteArray.size (ByteArray.mk #[39]) : Nat) : Int) = 1 := rfl; omega) (by have : ((ByteArray.size (ByteArray.mk #[39]) : Nat) : Int) = 1 := rfl; omega)]
      exact ⟨rfl, Wk.refl _, rfl⟩
  have g9 := of_decide_eq_false h
  clear h w9
  rw [w64 (by omega) (by omega)]
  have w10 := sHere_ok t hs (by omega) p (by omega) [96] (by intro x hx; simp at hx; omega) (by simp)
  rw [show bytesOf [96] = ByteArray.mk #[96] from by decide +kernel, hereB_1 96 _ (by omega)] at w10
  refine token_scanner_nextO_l0 ?_
  unfold token_scanner_nextO_R0
  refine ⟨fun _ => ⟨⟨by omega, by omega⟩, ByteArray.mk #[96], 6, ByteArray.mk #[113, 117, 97, 115, 105, 113, 117, 111, 116, 101], rfl, _, _, _, w10, fun h => ?_, fun h => ?_⟩, fun h => absurd h (by decide)⟩
  · have h := of_decide_eq_true h
    refine sg 6 [113, 117, 97, 115, 105, 113, 117, 111, 116, 101] 1 ?_ (by decide) _ _ ?_
    · unfold signP
      first | (simp only [h]; rfl) | (simp [h]; done) | (simp [h]; omega)
    · rw [show bytesOf [113, 117, 97, 115, 105, 113, 117, 111, 116, 101] = ByteArray.mk #[113, 117, 97, 115, 105, 113, 117, 111, 116, 101] from by decide +kernel, w64 (by have : ((ByteArray.size (ByteArray.mk #[96]) : Nat) : Int) = 1 := rfl; omega) (by have : ((ByteArray.size (ByteArray.mk #[96]) : Nat) : Int) = 1 := rfl; omega)]
      exact ⟨rfl, Wk.refl _, rfl⟩
  have g10 := of_decide_eq_false h
  clear h w10
  rw [w64 (by omega) (by omega)]
  have w11 := sHere_ok t hs (by omega) p (by omega) [44] (by intro x hx; simp at hx; omega) (by simp)
  rw [show bytesOf [44] = ByteArray.mk #[44] from by decide +kernel, hereB_1 44 _ (by omega)] at w11
  refine token_scanner_nextO_l0 ?_
  unfold token_scanner_nextO_R0
  refine ⟨fun _ => ⟨⟨by omega, by omega⟩, ByteArray.mk #[44], 6, ByteArray.mk #[117, 110, 113, 117, 111, 116, 101], rfl, _, _, _, w11, fun h => ?_, fun h => ?_⟩, fun h => absurd h (by decide)⟩
  · have h := of_decide_eq_true h
    refine sg 6 [117, 110, 113, 117, 111, 116, 101] 1 ?_ (by decide) _ _ ?_
    · unfold signP
      first | (simp only [h]; rfl) | (simp [h]; done) | (simp [h]; omega)
    · rw [show bytesOf [117, 110, 113, 117, 111, 116, 101] = ByteArray.mk #[117, 110, 113, 117, 111, 116, 101] from by decide +kernel, w64 (by have : ((ByteArray.size (ByteArray.mk #[44]) : Nat) : Int) = 1 := rfl; omega) (by have : ((ByteArray.size (ByteArray.mk #[44]) : Nat) : Int) = 1 := rfl; omega)]
      exact ⟨rfl, Wk.refl _, rfl⟩
  have g11 := of_decide_eq_false h
  clear h w11
  rw [w64 (by omega) (by omega)]
  refine token_scanner_nextO_l0 ?_
  unfold token_scanner_nextO_R0
  have hpk := sPeek_ok t p 0 (by omega) (by omega)
  rw [← hpL 0] at hpk
  obtain ⟨dk, ds, dn, dl, db, dq, hD, hV⟩ := sDatum_ok t hs hlen p hp
  refine ⟨fun h => absurd h (by decide), fun _ => ⟨_, _, _, hpk, ?_⟩⟩
  simp only [beq_t, beq_f, not_t, not_f, decide_eq_true_eq, decide_eq_false_iff_not]
  have leaf : signP (t.drop p) = (0, [], 0) → ∀ X Y : Prop, (RX (.ifv 62 true [.int .i64 ((p : Nat) : Int)]) (shH (scM t p)) → X) → (R (.agg ([.int .i64 7, .str (ByteArray.mk #[]), .int .i64 dk, .str (bytesOf ds), .bool dn, .sl 1 (ints .u32 dl), .sl 6 ([] : List (List FV)), .int .i64 ((p : Nat) : Int), .int .i64 ((p : Nat) : Int)].map .fz)) (scM t dq) → Y) → ((db = false → X) ∧ (db = true → Y)) := by
    intro hsg X Y hx hy
    refine ⟨fun hb => hx (hX ?_), fun hb => hy (hR ⟨7, [], lf dk ds dn dl p, p⟩ dq ?_ _ _ ?_)⟩
    · unfold nextV; rw [hsg]; simp only; rw [if_neg (by simp), hV, hb, if_neg (by simp)]
    · unfold nextV; rw [hsg]; simp only; rw [if_neg (by simp), hV, hb, if_pos rfl]
    · unfold Tok.row
      rw [lf_row]
      exact ⟨rfl, Wk.refl _, rfl⟩
  refine ⟨fun c46 => ⟨_, _, _, sLeft_ok t p 2 (by omega) (by omega), ?_⟩, fun c46 => ?_⟩
  · have e1 : IntKind.wrap .i64 ((p : Int) + 1) = ((p + 1 : Nat) : Int) := w64 (by omega) (by omega)
    have dot : (pkL (t.drop p) 1 < 0 ∨ endsB (pkL (t.drop p) 1) = true) → R (.agg [.fz (.int .i64 4), .fz (.str (ByteArray.mk #[])), .fz (.int .i64 0), .fz (.str (ByteArray.mk #[])), .fz (.bool false), .ofl 1 1, .ofl 6 2, .fz (.int .i64 0), .fz (.int .i64 ((p : Nat) : Int))]) [.g 66 [.fz (.sl 1 (ints .i64 t)), .fz (.int .i64 (IntKind.wrap .i64 ((p : Int) + 1)))], .f 0 1 ([] : List (List FV)), .f 0 6 ([] : List (List FV))] := fun h => by
      rw [e1]
      exact sg 4 [] 1 (by unfold signP; simp [c46, h]) (by decide) _ _ ⟨rfl, Wk.refl _, rfl⟩
    simp only [not_t, not_f, decide_eq_true_eq, decide_eq_false_iff_not]
    refine ⟨fun h2 => dot (.inl ?_), fun h2 => ⟨_, _, _, sPeek_ok t p 1 (by omega) (by omega), _, uEnds_ok _, fun he => dot (.inr ?_), fun he => ⟨_, _, _, _, _, _, _, _, _, hD, ?_⟩⟩⟩
    · rw [hpL 1, pkL_ge (by omega)]; omega
    · rw [hpL 1]; exact he
    · have hsg : signP (t.drop p) = (0, [], 0) := by
        have hlt : p + 1 < t.length := by omega
        have h1 : ¬ (pkL (t.drop p) 1 < 0 ∨ endsB (pkL (t.drop p) 1) = true) := by
          rw [hpL 1]
          rintro (h | h)
          · rw [pkL_lt hlt] at h
            have := (scal_in (hs.rd hlt)).1
            omega
          · rw [he] at h; cases h
        unfold signP
        simp only [c46]
        rw [if_neg (by omega), if_neg (by omega), if_neg (by omega), if_neg (by omega), if_neg (by omega), if_neg (by omega), if_neg (by omega), if_neg (by omega), if_neg (by omega), if_neg (by omega), if_neg (by omega), if_neg (by omega), if_neg (fun h => h1 h.2)]
      exact leaf hsg _ _ (fun h => h) (fun h => h)
  · refine ⟨_, _, _, _, _, _, _, _, _, hD, ?_⟩
    have hsg : signP (t.drop p) = (0, [], 0) := by
      unfold signP
      rw [if_neg g0, if_neg g5, if_neg g3, if_neg g4, if_neg g2, if_neg g1, if_neg g6, if_neg g11, if_neg g9, if_neg g10, if_neg g7, if_neg g8, if_neg (fun h => c46 h.1)]
    exact leaf hsg _ _ (fun h => h) (fun h => h)
theorem sNext_ok (t : List Int) (hs : Scals t) (hlen : t.length ≤ 4000000) (p : Nat) (hp : p < t.length) (tok : Tok) (q : Nat) (h : nextV t p = some (tok, q)) :
    Fn Tryz.prog 37 [scP] (scM t p) (.agg (tok.row.map .fz)) (scM t q) := by
  refine token_scanner_nextO_fc _ _ (sNext_H t hs hlen p hp _ _ (fun tok' q' h' r' hh hc => ?_) (fun h' => ?_))
  · rw [h] at h'; cases h'; exact hc
  · rw [h] at h'; cases h'
theorem sNext_fx (t : List Int) (hs : Scals t) (hlen : t.length ≤ 4000000) (p : Nat) (hp : p < t.length) (h : nextV t p = none) :
    FnX Tryz.prog 37 [scP] (scM t p) (.ifv 62 true [.int .i64 ((p : Nat) : Int)]) := by
  refine token_scanner_nextO_fx _ _ (sNext_H t hs hlen p hp _ _ (fun tok' q' h' r' hh hc => ?_) (fun h' => ⟨rfl, rfl⟩))
  rw [h] at h'; cases h'
end Go.Proofs.YtejefchehdifhaaGreatDoor.Ev
end
section
set_option linter.unusedVariables false
set_option linter.unusedSimpArgs false
namespace Go.Proofs.YtejefchehdifhaaGreatDoor.Ev
open Go
theorem FnC.args {P : Program} {C : Array Value → World → (Ending → World → Prop) → Prop} {E : Ending → Value → Prop} {xs ys : List TV} {h : List Ob} {r : TV} {h' : List Ob} (hl : xs.length = ys.length)
    (hr : ∀ (i : Nat) (x : TV), xs[i]? = some x → ∃ y, ys[i]? = some y ∧ ∀ (w : World) (B : Nat → Prop) (locs : Nat → Option Loc) (v : Value), RT w B locs y v → RT w B locs x v)
    (F : FnC P C E xs h r h') : FnC P C E ys h r h' := by
  intro ext w locs vals H hsz hrep
  refine F ext w locs vals H (by rw [hsz, hl]) (fun i x hi => ?_)
  obtain ⟨y, hy, himp⟩ := hr i x hi
  obtain ⟨v, hv, hv2⟩ := hrep i y hy
  exact ⟨v, hv, himp _ _ _ _ hv2⟩
theorem FnC.ptr1 {P : Program} {C : Array Value → World → (Ending → World → Prop) → Prop} {E : Ending → Value → Prop} {o e c ty : Nat} (ty' : Nat) {xs : List TV} {h : List Ob} {r : TV} {h' : List Ob}
    (F : FnC P C E (.one (.ptr o e c ty) :: xs) h r h') : FnC P C E (.one (.ptr o e c ty') :: xs) h r h' := by
  refine FnC.args (by simp) (fun i x hi => ?_) F
  cases i with
  | zero => cases hi; exact ⟨_, rfl, fun _ _ _ _ h => h⟩
  | succ i => exact ⟨x, hi, fun _ _ _ _ h => h⟩
theorem FnC.ptr3 {P : Program} {C : Array Value → World → (Ending → World → Prop) → Prop} {E : Ending → Value → Prop} {o e c ty o2 e2 c2 ty2 o3 e3 c3 ty3 : Nat} {xs : List TV} {h : List Ob} {r : TV} {h' : List Ob}
    (F : FnC P C E (.one (.ptr o e c ty) :: .one (.ptr o2 e2 c2 ty2) :: .one (.ptr o3 e3 c3 ty3) :: xs) h r h') : FnC P C E (.one (.ptr o e c 0) :: .one (.ptr o2 e2 c2 0) :: .one (.ptr o3 e3 c3 0) :: xs) h r h' := by
  refine FnC.args (by simp) (fun i x hi => ?_) F
  match i, hi with
  | 0, hi => cases hi; exact ⟨_, rfl, fun _ _ _ _ h => h⟩
  | 1, hi => cases hi; exact ⟨_, rfl, fun _ _ _ _ h => h⟩
  | 2, hi => cases hi; exact ⟨_, rfl, fun _ _ _ _ h => h⟩
  | i + 3, hi => exact ⟨x, hi, fun _ _ _ _ h => h⟩
def scanL : Nat → List Int → Nat → List Tok → List Tok × Int × Int
  | 0, _, _, _ => ([], 0, 3)
  | f + 1, t, p, acc => if t.length ≤ p + blC false (t.drop p) then (acc, 0, 0) else
    match nextV t (p + blC false (t.drop p)) with
    | some (tok, e) => scanL f t e (acc ++ [tok])
    | none => ([], ((p + blC false (t.drop p) : Nat) : Int), 3)
def badN : List Int → Nat
  | [] => 0
  | c :: r => if scalB c = true then badN r + 1 else 0
def scanV (t : List Int) : List Tok × Int × Int := if badN t < t.length then ([], ((badN t : Nat) : Int), 1) else scanL (t.length + 1) t 0 []
abbrev toks (l : List Tok) : List (List FV) := l.map Tok.row
abbrev scT (x : List Tok × Int × Int) : TV := .tup [(false, [.fz (.sl 9 (toks x.1))]), (false, [.fz (.int .i64 x.2.1)]), (false, [.fz (.int .i64 x.2.2)])]
theorem toks_snoc (l : List Tok) (x : Tok) : toks l ++ [x.row] = toks (l ++ [x]) := by simp [toks]
theorem badN_scals : ∀ {t : List Int}, ¬ badN t < t.length → Scals t
  | [], _ => by intro c hc; cases hc
  | c :: r, h => by
    unfold badN at h
    split at h
    · rename_i hc
      rw [List.length_cons] at h
      intro x hx
      rcases List.mem_cons.1 hx with rfl | hx
      · exact hc
      · exact badN_scals (by omega) x hx
    · simp at h
theorem badN_spec : ∀ (t : List Int) (j : Nat), (j < badN t → scalB (rd t j) = true) ∧ (badN t < t.length → scalB (rd t (badN t)) = false)
  | [], j => ⟨fun h => by simp [badN] at h, fun h => by simp [badN] at h⟩
  | c :: r, j => by
    have ih := badN_spec r
    unfold badN
    by_cases hc : scalB c = true
    · rw [if_pos hc]
      refine ⟨fun h => ?_, fun h => ?_⟩
      · cases j with
        | zero => exact hc
        | succ j => exact (ih j).1 (by omega)
      · rw [List.length_cons] at h
        exact (ih 0).2 (by omega)
    · rw [if_neg hc]
      refine ⟨fun h => by omega, fun h => ?_⟩
      show scalB c = false
      simpa using hc
theorem badN_le : ∀ t : List Int, badN t ≤ t.length
  | [] => Nat.le_refl _
  | c :: r => by
    have := badN_le r
    unfold badN
    split <;> simp <;> omega
theorem ite_all {α : Type} {P : α → Prop} {c : Prop} [Decidable c] {a b : α} (h1 : c → P a) (h2 : ¬ c → P b) : P (if c then a else b) := by
  by_cases h : c
  · rw [if_pos h]; exact h1 h
  · rw [if_neg h]; exact h2 h
theorem signP_pos {r : List Int} (h : (signP r).2.2 ≠ 0) : (signP r).2.2 ≤ r.length ∧ (signP r).2.2 ≤ 3 := by
  have h0 : ∀ c, 0 ≤ c → pkL r 0 = c → 1 ≤ r.length := fun c hc e => pkL_pos (by omega)
  have h1 : ∀ c, 0 ≤ c → pkL r 1 = c → 2 ≤ r.length := fun c hc e => pkL_pos (by omega)
  have h2 : ∀ c, 0 ≤ c → pkL r 2 = c → 3 ≤ r.length := fun c hc e => pkL_pos (by omega)
  revert h
  unfold signP
  refine ite_all (P := fun s : Int × List Int × Nat => s.2.2 ≠ 0 → s.2.2 ≤ r.length ∧ s.2.2 ≤ 3) (fun hc _ => ⟨h2 _ (by omega) hc.2.2, by simp⟩) (fun _ => ?_)
  refine ite_all (P := fun s : Int × List Int × Nat => s.2.2 ≠ 0 → s.2.2 ≤ r.length ∧ s.2.2 ≤ 3) (fun hc _ => ⟨h1 _ (by omega) hc.2, by simp⟩) (fun _ => ?_)
  refine ite_all (P := fun s : Int × List Int × Nat => s.2.2 ≠ 0 → s.2.2 ≤ r.length ∧ s.2.2 ≤ 3) (fun hc _ => ⟨h1 _ (by omega) hc.2, by simp⟩) (fun _ => ?_)
  refine ite_all (P := fun s : Int × List Int × Nat => s.2.2 ≠ 0 → s.2.2 ≤ r.length ∧ s.2.2 ≤ 3) (fun hc _ => ⟨h1 _ (by omega) hc.2, by simp⟩) (fun _ => ?_)
  refine ite_all (P := fun s : Int × List Int × Nat => s.2.2 ≠ 0 → s.2.2 ≤ r.length ∧ s.2.2 ≤ 3) (fun hc _ => ⟨h1 _ (by omega) hc.2, by simp⟩) (fun _ => ?_)
  refine ite_all (P := fun s : Int × List Int × Nat => s.2.2 ≠ 0 → s.2.2 ≤ r.length ∧ s.2.2 ≤ 3) (fun hc _ => ⟨h1 _ (by omega) hc.2, by simp⟩) (fun _ => ?_)
  refine ite_all (P := fun s : Int × List Int × Nat => s.2.2 ≠ 0 → s.2.2 ≤ r.length ∧ s.2.2 ≤ 3) (fun hc _ => ⟨h1 _ (by omega) hc.2, by simp⟩) (fun _ => ?_)
  refine ite_all (P := fun s : Int × List Int × Nat => s.2.2 ≠ 0 → s.2.2 ≤ r.length ∧ s.2.2 ≤ 3) (fun hc _ => ⟨h0 _ (by omega) hc, by simp⟩) (fun _ => ?_)
  refine ite_all (P := fun s : Int × List Int × Nat => s.2.2 ≠ 0 → s.2.2 ≤ r.length ∧ s.2.2 ≤ 3) (fun hc _ => ⟨h0 _ (by omega) hc, by simp⟩) (fun _ => ?_)
  refine ite_all (P := fun s : Int × List Int × Nat => s.2.2 ≠ 0 → s.2.2 ≤ r.length ∧ s.2.2 ≤ 3) (fun hc _ => ⟨h0 _ (by omega) hc, by simp⟩) (fun _ => ?_)
  refine ite_all (P := fun s : Int × List Int × Nat => s.2.2 ≠ 0 → s.2.2 ≤ r.length ∧ s.2.2 ≤ 3) (fun hc _ => ⟨h0 _ (by omega) hc, by simp⟩) (fun _ => ?_)
  refine ite_all (P := fun s : Int × List Int × Nat => s.2.2 ≠ 0 → s.2.2 ≤ r.length ∧ s.2.2 ≤ 3) (fun hc _ => ⟨h0 _ (by omega) hc, by simp⟩) (fun _ => ?_)
  refine ite_all (P := fun s : Int × List Int × Nat => s.2.2 ≠ 0 → s.2.2 ≤ r.length ∧ s.2.2 ≤ 3) (fun hc _ => ⟨h0 _ (by omega) hc.1, by simp⟩) (fun _ => ?_)
  exact fun h => absurd rfl h
theorem strF_le : ∀ (f : Nat) (r acc : List Int) (k : Nat) (a : List Int) (e : Nat), strF f r acc k = some (a, e) → k < e ∧ e ≤ k + r.length
  | 0, r, acc, k, a, e, h => by unfold strF at h; cases h
  | f + 1, [], acc, k, a, e, h => by unfold strF at h; cases h
  | f + 1, c :: r, acc, k, a, e, h => by
    unfold strF at h
    split at h
    · cases h; simp
    · split at h
      · have := strF_le f r _ _ a e h
        simp only [List.length_cons]; omega
      · split at h
        · cases h
        · rename_i hc
          have := strF_le f _ _ _ a e h
          have g := (escV_pos (r := r) (by omega)).2.2
          simp only [List.length_cons, List.length_drop] at this ⊢
          omega
theorem chN_le (r : List Int) (h : r ≠ []) : chN_ r ≤ r.length := by
  have := untilN_le (r.drop 1)
  have hl : r.length ≠ 0 := fun e => h (List.length_eq_zero_iff.1 e)
  unfold chN_
  rw [List.length_drop] at this
  omega
theorem atomK_nil : atomK [] = 0 := by decide +kernel
theorem datV_le {f : Nat} {r : List Int} {p : Nat} {k : Int} {s : List Int} {n : Bool} {l : List Int} {e : Nat} (h : datV f r p = some (k, s, n, l, e)) : p < e ∧ e ≤ p + r.length := by
  unfold datV at h
  split at h
  · rename_i hc
    have hr : 0 < r.length := pkL_pos (i := 0) (by omega)
    split at h
    · rename_i a e' hst
      split at h
      · cases h
        have := strF_le _ _ _ _ _ _ hst
        rw [List.length_drop] at this
        omega
      · cases h
    · cases h
  · split at h
    · rename_i hc
      have hr : 1 < r.length := pkL_pos (i := 1) (by omega)
      split at h
      · rename_i hv
        cases h
        have hne : r.drop 2 ≠ [] := fun e => by rw [e] at hv; exact absurd hv (by decide)
        have := chN_le _ hne
        unfold chQ
        rw [if_neg hne]
        rw [List.length_drop] at this
        have h1 : 1 ≤ chN_ (r.drop 2) := by unfold chN_; omega
        omega
      · cases h
    · split at h
      · rename_i hk
        cases h
        have := untilN_le r
        have h0 : untilN r ≠ 0 := fun e => by
          rw [e, List.take_zero, show enc [] = [] from rfl, atomK_nil] at hk
          exact hk rfl
        omega
      · cases h
theorem nextV_le {t : List Int} {p : Nat} {tok : Tok} {e : Nat} (hp : p ≤ t.length) (h : nextV t p = some (tok, e)) : p < e ∧ e ≤ t.length := by
  unfold nextV at h
  split at h
  · rename_i hs
    cases h
    have := signP_pos hs
    rw [List.length_drop] at this
    omega
  · split at h
    · rename_i k s n l e' hd
      cases h
      have := datV_le hd
      rw [List.length_drop] at this
      omega
    · cases h
theorem scanDx_ok (q : Nat) : FnDf Tryz.prog 34 [.one (.ptr 0 0 0 0), .one (.ptr 1 0 0 0), .one (.ptr 2 0 0 0)] [.g 25 [.und], .g 3 [.und], .g 26 [.und]] (some (.ifv 62 true [.int .i64 ((q : Nat) : Int)]))
    [.g 25 [.nsl 9], .g 3 [.fz (.int .i64 ((q : Nat) : Int))], .g 26 [.fz (.int .i64 3)]] := by
  have := scanDx_fn ((q : Nat) : Int) (h := [.g 25 [.nsl 9], .g 3 [.fz (.int .i64 ((q : Nat) : Int))], .g 26 [.fz (.int .i64 3)]]) ⟨fun _ => Wk.refl _, fun h => absurd h (by decide)⟩
  exact FnC.ptr3 this
theorem scanD0_ok (l : List (List FV)) : FnDf Tryz.prog 34 [.one (.ptr 0 0 0 0), .one (.ptr 1 0 0 0), .one (.ptr 2 0 0 0)] [.g 25 [.ofl 9 3], .g 3 [.fz (.int .i64 0)], .g 26 [.fz (.int .i64 0)], .f 0 9 l] none
    [.g 25 [.ofl 9 3], .g 3 [.fz (.int .i64 0)], .g 26 [.fz (.int .i64 0)], .f 0 9 l] := by
  have := scanD0_fn 0 0 l (h := [.g 25 [.ofl 9 3], .g 3 [.fz (.int .i64 0)], .g 26 [.fz (.int .i64 0)], .f 0 9 l]) ⟨fun h => absurd h (by decide), fun _ => Wk.refl _⟩
  exact FnC.ptr3 this
theorem sScan_loop (t : List Int) (hs : Scals t) (hlen : t.length ≤ 4000000) (R : TV → List Ob → Prop) (RX : FV → List Ob → Prop) : ∀ (f p : Nat) (acc : List Tok), t.length - p < f → p ≤ t.length → acc.length ≤ p → R (scT (scanL f t p acc)) [] →
    token_Scan_L0 R RX (ints .i64 t) ((p + blC false (t.drop p) : Nat) : Int) (toks acc) := by
  intro f
  induction f with
  | zero => intro p acc hf; omega
  | succ f ih =>
    intro p acc hf hp hacc hR
    have hb := blC_le false (t.drop p)
    rw [List.length_drop] at hb
    unfold scanL at hR
    generalize hq : p + blC false (t.drop p) = q at *
    refine token_Scan_l0 ?_
    unfold token_Scan_R0
    refine ⟨_, _, _, FnC.ptr1 0 (sLeft_ok t q 1 (by omega) (by omega)), fun h => ?_, fun h => ?_⟩
    · have hlt : q < t.length := of_decide_eq_true h
      rw [if_neg (by omega)] at hR
      cases hn : nextV t q with
      | none =>
        rw [hn] at hR
        exact .inl ⟨_, FnC.ptr1 0 (sNext_fx t hs hlen q hlt hn), _, _, scanDx_ok q, hR⟩
      | some te =>
        obtain ⟨tok, e⟩ := te
        rw [hn] at hR
        simp only at hR
        have hle := nextV_le (by omega) hn
        have hN := sNext_ok t hs hlen q hlt tok e hn
        obtain ⟨tk, tn, td, ta⟩ := tok
        obtain ⟨dk, dt, dn, dl, dds, da⟩ := td
        refine .inr ⟨_, _, _, _, _, _, _, _, _, _, _, FnC.ptr1 0 hN, by simp only [List.length_map, List.length_cons, List.length_nil]; omega, _, _, FnC.ptr1 0 (sBlanks_ok t (by omega) e (by omega)), ?_⟩
        have := ih e (acc ++ [⟨tk, tn, .mk dk dt dn dl dds da, ta⟩]) (by omega) (by omega) (by simp; omega) hR
        rw [← toks_snoc] at this
        exact this
    · have hge : t.length ≤ q := by have := of_decide_eq_false h; omega
      rw [if_pos hge] at hR
      exact ⟨_, _, _, scanD0_ok _, hR⟩
theorem ixScal_loop (t : List Int) (hlen : t.length ≤ 100000000) (R : TV → List Ob → Prop) (hR : R (fzI .i64 (if badN t < t.length then ((badN t : Nat) : Int) else -1)) []) : ∀ (m j : Nat), t.length - j = m → j ≤ badN t → ixScal_L0 R (ints .i64 t) j := by
  have hle := badN_le t
  intro m
  induction m with
  | zero =>
    intro j hj h
    refine ixScal_l0 ?_
    unfold ixScal_R0
    rw [ints_len]
    refine ⟨fun h => absurd (of_decide_eq_true h) (by omega), fun _ => ?_⟩
    rw [if_neg (by omega)] at hR
    exact hR
  | succ m ih =>
    intro j hj h
    have hlt : j < t.length := by omega
    refine ixScal_l0 ?_
    unfold ixScal_R0
    rw [ints_len]
    refine ⟨fun _ => ⟨by omega, rd t j, by simp [ints, some_rd hlt], _, scanFn1_ok _, fun hb => ?_, fun hb => ?_⟩, fun h => absurd (of_decide_eq_false h) (by omega)⟩
    · have : ¬ j < badN t := fun h2 => by
        have := (badN_spec t j).1 h2
        rw [this] at hb; cases hb
      have e : badN t = j := by omega
      rw [e, if_pos hlt] at hR
      exact hR
    · have hb' : scalB (rd t j) = true := by simpa using hb
      have : badN t ≠ j := fun e => by
        have := (badN_spec t j).2 (by omega)
        rw [e, hb'] at this; cases this
      rw [w64 (by omega) (by omega)]
      exact ih (j + 1) (by omega) (by omega)
theorem tScan_ok (t : List Int) (hlen : t.length ≤ 4000000) : Fn Tryz.prog 12 [fzS .i64 t] [] (scT (scanV t)) [] := by
  refine token_Scan_fn _ ?_
  obtain ⟨R, hR, hRe⟩ := exW (scT (scanV t)) []; rw [hRe]; clear hRe
  unfold scanV at hR
  unfold token_Scan_H
  refine ⟨_, ixScal_fn _ (ixScal_loop t (by omega) _ ⟨rfl, rfl⟩ _ 0 rfl (Nat.zero_le _)), ?_⟩
  by_cases hb : badN t < t.length
  · rw [if_pos hb] at hR ⊢
    exact ⟨fun _ => hR _ (Wk.refl _), fun h => absurd (of_decide_eq_false h) (by omega)⟩
  · rw [if_neg hb] at hR ⊢
    refine ⟨fun h => absurd (of_decide_eq_true h) (by omega), fun _ => ?_⟩
    exact ⟨_, _, FnC.ptr1 0 (sBlanks_ok t (by omega) 0 (by omega)), sScan_loop t (badN_scals hb) hlen R _ (t.length + 1) 0 [] (by omega) (by omega) (by simp) (hR _ (Wk.refl _))⟩
end Go.Proofs.YtejefchehdifhaaGreatDoor.Ev
end
section
set_option linter.unusedVariables false
set_option linter.unusedSimpArgs false
namespace Go.Proofs.YtejefchehdifhaaGreatDoor.Ev
open Go
abbrev signT (s : Int × List Int × Nat) : TV := .tup [(false, [.fz (.int .i64 s.1)]), (false, [.fz (.str (bytesOf s.2.1))]), (false, [.fz (.int .i64 ((s.2.2 : Nat) : Int))])]
theorem rSign_ok (t : List Int) (hlen : t.length ≤ 100000000) (i : Nat) (hi : i ≤ t.length) : Fn Tryz.prog 40 [fzS .i64 t, fzI .i64 ((i : Nat) : Int)] [] (signT (signP (t.drop i))) [] := by
  refine ref02_sign_fn _ _ ?_
  obtain ⟨R, hR, hRe⟩ := exR (signT (signP (t.drop i))); rw [hRe]; clear hRe
  unfold signP at hR
  have a0 := rAt_ok t i
  have a1 := rAt_ok t (i + 1)
  have a2 := rAt_ok t (i + 2)
  rw [show pkL t i = pkL (t.drop i) 0 from (pkL_drop t i 0).symm] at a0
  rw [← pkL_drop t i 1] at a1
  rw [← pkL_drop t i 2] at a2
  generalize pkL (t.drop i) 0 = c at *
  generalize pkL (t.drop i) 1 = d at *
  generalize pkL (t.drop i) 2 = e at *
  have go0 : ∀ Z, (R (signT Z) [] → ref02_sign_L1 R c d) → R (signT (if c = 35 ∧ d = 44 then (6, [117, 110, 115, 121, 110, 116, 97, 120], 2) else Z)) [] → ref02_sign_L0 R c d := fun Z g h => by
    refine ref02_sign_l0 ?_
    unfold ref02_sign_R0
    simp only [beq_t, beq_f]
    refine ⟨fun hc => ⟨fun hd => ?_, fun hd => g ?_⟩, fun hc => g ?_⟩
    · rw [if_pos ⟨hc, hd⟩] at h; rw [show ByteArray.mk #[117, 110, 115, 121, 110, 116, 97, 120] = bytesOf [117, 110, 115, 121, 110, 116, 97, 120] from by decide +kernel]; exact h
    · rw [if_neg (fun x => hd x.2)] at h; exact h
    · rw [if_neg (fun x => hc x.1)] at h; exact h
  have go1 : ∀ Z, (R (signT Z) [] → ref02_sign_L2 R c d) → R (signT (if c = 35 ∧ d = 39 then (6, [115, 121, 110, 116, 97, 120], 2) else Z)) [] → ref02_sign_L1 R c d := fun Z g h => by
    refine ref02_sign_l1 ?_
    unfold ref02_sign_R1
    simp only [beq_t, beq_f]
    refine ⟨fun hc => ⟨fun hd => ?_, fun hd => g ?_⟩, fun hc => g ?_⟩
    · rw [if_pos ⟨hc, hd⟩] at h; rw [show ByteArray.mk #[115, 121, 110, 116, 97, 120] = bytesOf [115, 121, 110, 116, 97, 120] from by decide +kernel]; exact h
    · rw [if_neg (fun x => hd x.2)] at h; exact h
    · rw [if_neg (fun x => hc x.1)] at h; exact h
  have go2 : ∀ Z, (R (signT Z) [] → ref02_sign_L3 R c d) → R (signT (if c = 35 ∧ d = 96 then (6, [113, 117, 97, 115, 105, 115, 121, 110, 116, 97, 120], 2) else Z)) [] → ref02_sign_L2 R c d := fun Z g h => by
    refine ref02_sign_l2 ?_
    unfold ref02_sign_R2
    simp only [beq_t, beq_f]
    refine ⟨fun hc => ⟨fun hd => ?_, fun hd => g ?_⟩, fun hc => g ?_⟩
    · rw [if_pos ⟨hc, hd⟩] at h; rw [show ByteArray.mk #[113, 117, 97, 115, 105, 115, 121, 110, 116, 97, 120] = bytesOf [113, 117, 97, 115, 105, 115, 121, 110, 116, 97, 120] from by decide +kernel]; exact h
    · rw [if_neg (fun x => hd x.2)] at h; exact h
    · rw [if_neg (fun x => hc x.1)] at h; exact h
  have go3 : ∀ Z, (R (signT Z) [] → ref02_sign_L4 R c d) → R (signT (if c = 35 ∧ d = 59 then (5, [], 2) else Z)) [] → ref02_sign_L3 R c d := fun Z g h => by
    refine ref02_sign_l3 ?_
    unfold ref02_sign_R3
    simp only [beq_t, beq_f]
    refine ⟨fun hc => ⟨fun hd => ?_, fun hd => g ?_⟩, fun hc => g ?_⟩
    · rw [if_pos ⟨hc, hd⟩] at h; rw [show ByteArray.mk #[] = bytesOf [] from by decide +kernel]; exact h
    · rw [if_neg (fun x => hd x.2)] at h; exact h
    · rw [if_neg (fun x => hc x.1)] at h; exact h
  have go4 : ∀ Z, (R (signT Z) [] → ref02_sign_L5 R c d) → R (signT (if c = 35 ∧ d = 40 then (3, [], 2) else Z)) [] → ref02_sign_L4 R c d := fun Z g h => by
    refine ref02_sign_l4 ?_
    unfold ref02_sign_R4
    simp only [beq_t, beq_f]
    refine ⟨fun hc => ⟨fun hd => ?_, fun hd => g ?_⟩, fun hc => g ?_⟩
    · rw [if_pos ⟨hc, hd⟩] at h; rw [show ByteArray.mk #[] = bytesOf [] from by decide +kernel]; exact h
    · rw [if_neg (fun x => hd x.2)] at h; exact h
    · rw [if_neg (fun x => hc x.1)] at h; exact h
  have go5 : ∀ Z, (R (signT Z) [] → ref02_sign_L6 R c d) → R (signT (if c = 44 ∧ d = 64 then (6, [117, 110, 113, 117, 111, 116, 101, 45, 115, 112, 108, 105, 99, 105, 110, 103], 2) else Z)) [] → ref02_sign_L5 R c d := fun Z g h => by
    refine ref02_sign_l5 ?_
    unfold ref02_sign_R5
    simp only [beq_t, beq_f]
    refine ⟨fun hc => ⟨fun hd => ?_, fun hd => g ?_⟩, fun hc => g ?_⟩
    · rw [if_pos ⟨hc, hd⟩] at h; rw [show ByteArray.mk #[117, 110, 113, 117, 111, 116, 101, 45, 115, 112, 108, 105, 99, 105, 110, 103] = bytesOf [117, 110, 113, 117, 111, 116, 101, 45, 115, 112, 108, 105, 99, 105, 110, 103] from by decide +kernel]; exact h
    · rw [if_neg (fun x => hd x.2)] at h; exact h
    · rw [if_neg (fun x => hc x.1)] at h; exact h
  have go6 : R (signT (if c = 44 then (6, [117, 110, 113, 117, 111, 116, 101], 1) else (if c = 39 then (6, [113, 117, 111, 116, 101], 1) else (if c = 96 then (6, [113, 117, 97, 115, 105, 113, 117, 111, 116, 101], 1) else (if c = 40 then (1, [], 1) else (if c = 41 then (2, [], 1) else (if c = 46 ∧ (d < 0 ∨ endsB d = true) then (4, [], 1) else (0, [], 0)))))))) [] → ref02_sign_L6 R c d := fun h => by
    refine ref02_sign_l6 ?_
    unfold ref02_sign_R6
    simp only [beq_t, beq_f, dec_t, dec_f]
    refine ⟨fun hc => ?_, fun c0 => ?_⟩
    · rw [if_pos hc] at h; rw [show ByteArray.mk #[117, 110, 113, 117, 111, 116, 101] = bytesOf [117, 110, 113, 117, 111, 116, 101] from by decide +kernel]; exact h
    rw [if_neg c0] at h
    refine ⟨fun hc => ?_, fun c1 => ?_⟩
    · rw [if_pos hc] at h; rw [show ByteArray.mk #[113, 117, 111, 116, 101] = bytesOf [113, 117, 111, 116, 101] from by decide +kernel]; exact h
    rw [if_neg c1] at h
    refine ⟨fun hc => ?_, fun c2 => ?_⟩
    · rw [if_pos hc] at h; rw [show ByteArray.mk #[113, 117, 97, 115, 105, 113, 117, 111, 116, 101] = bytesOf [113, 117, 97, 115, 105, 113, 117, 111, 116, 101] from by decide +kernel]; exact h
    rw [if_neg c2] at h
    refine ⟨fun hc => ?_, fun c3 => ?_⟩
    · rw [if_pos hc] at h; rw [show ByteArray.mk #[] = bytesOf [] from by decide +kernel]; exact h
    rw [if_neg c3] at h
    refine ⟨fun hc => ?_, fun c4 => ?_⟩
    · rw [if_pos hc] at h; rw [show ByteArray.mk #[] = bytesOf [] from by decide +kernel]; exact h
    rw [if_neg c4] at h
    have last : ¬ (c = 46 ∧ (d < 0 ∨ endsB d = true)) → ref02_sign_L7 R := fun hn => by
      refine ref02_sign_l7 ?_
      unfold ref02_sign_R7
      rw [if_neg hn] at h
      exact h
    refine ⟨fun hc => ⟨fun hd => ?_, fun hd => ⟨_, rEnds_ok d, fun he => ?_, fun he => last (fun hx => ?_)⟩⟩, fun hc => last (fun hx => hc hx.1)⟩
    · rw [if_pos ⟨hc, .inl hd⟩] at h; exact h
    · rw [if_pos ⟨hc, .inr he⟩] at h; exact h
    · rcases hx.2 with hy | hy
      · exact hd hy
      · rw [he] at hy; cases hy
  unfold ref02_sign_H
  rw [w64 (n := (i : Int) + 1) (by omega) (by omega), w64 (n := (i : Int) + 2) (by omega) (by omega)]
  refine ⟨c, a0, d, a1, ?_⟩
  simp only [beq_t, beq_f]
  have all := fun h => go0 _ (go1 _ (go2 _ (go3 _ (go4 _ (go5 _ go6))))) h
  refine ⟨fun hc => ⟨fun hd => ⟨e, a2, fun he => ?_, fun he => all ?_⟩, fun hd => all ?_⟩, fun hc => all ?_⟩
  · rw [if_pos ⟨hc, hd, he⟩] at hR; rw [show ByteArray.mk #[117, 110, 115, 121, 110, 116, 97, 120, 45, 115, 112, 108, 105, 99, 105, 110, 103] = bytesOf [117, 110, 115, 121, 110, 116, 97, 120, 45, 115, 112, 108, 105, 99, 105, 110, 103] from by decide +kernel]; exact hR
  · rw [if_neg (fun x => he x.2.2)] at hR; exact hR
  · rw [if_neg (fun x => hd x.2.1)] at hR; exact hR
  · rw [if_neg (fun x => hc x.1)] at hR; exact hR
theorem rdI {t : List Int} {i : Nat} (h : i < t.length) : (ints .i64 t)[Int.toNat ((i : Nat) : Int)]? = some [FV.int .i64 (rd t i)] := by rw [Int.toNat_natCast]; simp [ints, some_rd h]
theorem rBl_loop (t : List Int) (hlen : t.length ≤ 100000000) (R : TV → List Ob → Prop) (o : List (List FV)) : ∀ (m q : Nat), t.length - q = m → q ≤ t.length →
    (ref02_Scan_L1 R (ints .i64 t) ((q + blC false (t.drop q) : Nat) : Int) o → ref02_Scan_L1 R (ints .i64 t) q o) ∧ (ref02_Scan_L1 R (ints .i64 t) ((q + blC true (t.drop q) : Nat) : Int) o → ref02_Scan_L2 R (ints .i64 t) q o) := by
  intro m
  induction m with
  | zero =>
    intro q hq hle
    rw [List.drop_eq_nil_of_le (by omega)]
    refine ⟨fun h => h, fun h => ?_⟩
    refine ref02_Scan_l2 ?_
    unfold ref02_Scan_R2
    rw [ints_len]
    exact ⟨fun h => absurd (of_decide_eq_true h) (by omega), fun _ => h⟩
  | succ m ih =>
    intro q hq hle
    have hlt : q < t.length := by omega
    obtain ⟨ih0, ih1⟩ := ih (q + 1) (by omega) (by omega)
    have hd := drop_rd' t q hlt
    have e : IntKind.wrap .i64 ((q : Int) + 1) = ((q + 1 : Nat) : Int) := w64 (by omega) (by omega)
    have h0 : ref02_Scan_L1 R (ints .i64 t) ((q + blC false (t.drop q) : Nat) : Int) o → ref02_Scan_L1 R (ints .i64 t) q o := fun h => by
      rw [hd] at h
      unfold blC at h
      by_cases hb : blankB (rd t q) = true
      · rw [if_pos hb, show q + (blC false (t.drop (q + 1)) + 1) = q + 1 + blC false (t.drop (q + 1)) by omega] at h
        refine ref02_Scan_l1 ?_
        unfold ref02_Scan_R1
        rw [ints_len, e]
        exact ⟨fun _ => ⟨by omega, _, rdI hlt, _, rBlank_ok _, fun _ => ih0 h, fun hx => absurd hb (by rw [hx]; simp)⟩, fun hx => absurd (of_decide_eq_false hx) (by omega)⟩
      · rw [if_neg hb] at h
        by_cases hc : rd t q = 59
        · rw [if_pos hc, show q + (blC true (t.drop (q + 1)) + 1) = q + 1 + blC true (t.drop (q + 1)) by omega] at h
          refine ref02_Scan_l1 ?_
          unfold ref02_Scan_R1
          rw [ints_len]
          refine ⟨fun _ => ⟨by omega, _, rdI hlt, _, rBlank_ok _, fun hx => absurd hx hb, fun _ => ⟨by omega, _, rdI hlt, fun _ => ?_, fun hx => absurd hc (by simpa using hx)⟩⟩, fun hx => absurd (of_decide_eq_false hx) (by omega)⟩
          refine ref02_Scan_l2 ?_
          unfold ref02_Scan_R2
          rw [ints_len, e]
          exact ⟨fun _ => ⟨by omega, _, rdI hlt, fun _ => ih1 h, fun hx => absurd hx (by rw [hc]; decide)⟩, fun hx => absurd (of_decide_eq_false hx) (by omega)⟩
        · rw [if_neg hc] at h
          exact h
    refine ⟨h0, fun h => ?_⟩
    refine ref02_Scan_l2 ?_
    unfold ref02_Scan_R2
    rw [ints_len, e]
    refine ⟨fun _ => ⟨by omega, _, rdI hlt, fun hx => ih1 ?_, fun hx => h0 ?_⟩, fun hx => absurd (of_decide_eq_false hx) (by omega)⟩
    · rw [hd] at h
      unfold blC at h
      rw [if_neg (by simpa using hx), show q + (blC true (t.drop (q + 1)) + 1) = q + 1 + blC true (t.drop (q + 1)) by omega] at h
      exact h
    · have hb : blC true (t.drop q) = blC false (t.drop q) := by
        have : rd t q = 10 := by simpa using hx
        rw [hd, this]; rfl
      rw [← hb]; exact h
theorem tok9 (k : Int) (nm : List Int) (dk : Int) (ds : List Int) (n : Bool) (l : List Int) (a p : Nat) : (Tok.mk k nm (lf dk ds n l ((a : Nat) : Int)) p).row = [.int .i64 k, .str (bytesOf nm), .int .i64 dk, .str (bytesOf ds), .bool n, .sl 1 (ints .u32 l), .sl 6 ([] : List (List FV)), .int .i64 ((a : Nat) : Int), .int .i64 ((p : Nat) : Int)] := by
  unfold Tok.row; rw [lf_row]; rfl
theorem blC_at : ∀ (b : Bool) (l : List Int), blC b l < l.length → blankB (rd l (blC b l)) = false ∧ rd l (blC b l) ≠ 59
  | b, [], h => by simp at h
  | true, c :: r, h => by
    unfold blC at h ⊢
    by_cases hc : c = 10
    · rw [if_pos hc] at h ⊢
      exact blC_at false r (by simp at h; omega)
    · rw [if_neg hc] at h ⊢
      exact blC_at true r (by simp at h; omega)
  | false, c :: r, h => by
    unfold blC at h ⊢
    by_cases hb : blankB c = true
    · rw [if_pos hb] at h ⊢
      exact blC_at false r (by simp at h; omega)
    · rw [if_neg hb] at h ⊢
      by_cases hc : c = 59
      · rw [if_pos hc] at h ⊢
        exact blC_at true r (by simp at h; omega)
      · rw [if_neg hc]
        exact ⟨show blankB c = false by simpa using hb, hc⟩
theorem rText_ok (t : List Int) (hs : Scals t) (hlen : t.length ≤ 100000000) (i : Nat) (hi : i ≤ t.length) : Fn Tryz.prog 41 [fzS .i64 t, fzI .i64 ((i : Nat) : Int)] [] (strT (strZ (strF (t.length + 1) (t.drop i) [] i))) [] := by
  refine ref02_text_fn _ _ ?_
  obtain ⟨R, hR, hRe⟩ := exR (strT (strZ (strF (t.length + 1) (t.drop i) [] i))); rw [hRe]; clear hRe
  unfold ref02_text_H
  exact rtx_loop t hs (by omega) R (t.length + 1) i [] (by omega) hi (by simp) hR
theorem strF_scals : ∀ (f : Nat) (r acc : List Int) (k : Nat) (a : List Int) (e : Nat), Scals r → Scals acc → strF f r acc k = some (a, e) → Scals a
  | 0, r, acc, k, a, e, hr, ha, h => by unfold strF at h; cases h
  | f + 1, [], acc, k, a, e, hr, ha, h => by unfold strF at h; cases h
  | f + 1, c :: r, acc, k, a, e, hr, ha, h => by
    have hr' : Scals r := fun x hx => hr x (List.mem_cons_of_mem _ hx)
    have app : ∀ c, scalB c = true → Scals (acc ++ [c]) := fun c hc x hx => by
      rcases List.mem_append.1 hx with hx | hx
      · exact ha x hx
      · simp at hx; rw [hx]; exact hc
    unfold strF at h
    split at h
    · cases h; exact ha
    · split at h
      · exact strF_scals f r _ _ a e hr' (app c (hr c List.mem_cons_self)) h
      · split at h
        · cases h
        · rename_i hc
          exact strF_scals f _ _ _ a e (hr'.drop _) (app _ (escV_pos (r := r) (by omega)).2.1) h
theorem nextV_leaf {t : List Int} {p : Nat} (h : (signP (t.drop p)).2.2 = 0) : nextV t p = (datV (t.length + 1) (t.drop p) p).map fun x => (⟨7, [], lf x.1 x.2.1 x.2.2.1 x.2.2.2.1 p, p⟩, x.2.2.2.2) := by
  unfold nextV
  rw [if_neg (by omega)]
  cases datV (t.length + 1) (t.drop p) p <;> rfl
theorem rScan_loop (t : List Int) (hs : Scals t) (hlen : t.length ≤ 4000000) (R : TV → List Ob → Prop) : ∀ (f p : Nat) (acc : List Tok), t.length - p < f → p ≤ t.length → acc.length ≤ p → R (scT (scanL f t p acc)) [] → ref02_Scan_L1 R (ints .i64 t) p (toks acc) := by
  intro f
  induction f with
  | zero => intro p acc hf; omega
  | succ f ih =>
    intro p acc hf hp hacc hR
    refine (rBl_loop t (by omega) R _ _ p rfl hp).1 ?_
    have hb := blC_le false (t.drop p)
    have hat := blC_at false (t.drop p)
    rw [rd_dropN] at hat
    rw [List.length_drop] at hb hat
    unfold scanL at hR
    generalize hq : p + blC false (t.drop p) = q at *
    refine ref02_Scan_l1 ?_
    unfold ref02_Scan_R1
    rw [ints_len]
    refine ⟨fun h => ?_, fun h => ?_⟩
    · have hlt : q < t.length := by have := of_decide_eq_true h; omega
      rw [if_neg (by omega)] at hR
      obtain ⟨hb1, hb2⟩ := hat (by omega)
      have hpL : ∀ i, pkL (t.drop q) i = pkL t (q + i) := fun i => pkL_drop t q i
      have h0 : pkL (t.drop q) 0 = rd t q := by rw [hpL 0, Nat.add_zero, pkL_lt hlt]
      have sz : ∀ x : List FV, (List.length (toks acc) + List.length [x]) * 120 ≤ 220000000000000 := fun x => by simp; omega
      have go : ∀ (tok : Tok) (e : Nat), nextV t q = some (tok, e) → ref02_Scan_L1 R (ints .i64 t) ((e : Nat) : Int) (toks acc ++ [tok.row]) := fun tok e hn => by
        rw [hn] at hR
        have hle := nextV_le (by omega) hn
        rw [toks_snoc]
        exact ih e _ (by omega) (by omega) (by simp; omega) hR
      have bad : nextV t q = none → R (.tup [(false, [.fz (.sl 9 ([] : List (List FV)))]), (false, [.fz (.int .i64 ((q : Nat) : Int))]), (false, [.fz (.int .i64 3)])]) [] := fun hn => by
        rw [hn] at hR; exact hR
      clear hR ih
      have hsP := signP_pos (r := t.drop q)
      rw [List.length_drop] at hsP
      refine ⟨by omega, _, rdI hlt, _, rBlank_ok _, fun hx => absurd hx (by rw [hb1]; simp), fun _ => ⟨by omega, _, rdI hlt, fun hx => absurd (by simpa using hx) hb2, fun _ => ⟨_, _, _, rSign_ok t (by omega) q (by omega), fun hx => ⟨sz _, ?_⟩, fun hx => ?_⟩⟩⟩
      · have hn0 : (signP (t.drop q)).2.2 ≠ 0 := by have := of_decide_eq_true hx; omega
        have := go ⟨(signP (t.drop q)).1, (signP (t.drop q)).2.1, lf 0 [] false [] 0, q⟩ (q + (signP (t.drop q)).2.2) (by unfold nextV; rw [if_pos hn0])
        rw [show (0 : Int) = ((0 : Nat) : Int) from rfl, tok9] at this
        rw [w64 (by omega) (by have := hsP hn0; omega)]
        exact this
      · have hn0 : (signP (t.drop q)).2.2 = 0 := by have := of_decide_eq_false hx; omega
        have nx := nextV_leaf hn0
        have go' : ∀ (k : Int) (s : List Int) (n : Bool) (l : List Int) (e : Nat), datV (t.length + 1) (t.drop q) q = some (k, s, n, l, e) → ref02_Scan_L1 R (ints .i64 t) ((e : Nat) : Int) (toks acc ++ [[.int .i64 7, .str (ByteArray.mk #[]), .int .i64 k, .str (bytesOf s), .bool n, .sl 1 (ints .u32 l), .sl 6 ([] : List (List FV)), .int .i64 ((q : Nat) : Int), .int .i64 ((q : Nat) : Int)]]) := fun k s n l e hd => by
          have := go ⟨7, [], lf k s n l q, q⟩ e (by rw [nx, hd]; rfl)
          rw [tok9] at this
          exact this
        have bad' : datV (t.length + 1) (t.drop q) q = none → R (.tup [(false, [.fz (.sl 9 ([] : List (List FV)))]), (false, [.fz (.int .i64 ((q : Nat) : Int))]), (false, [.fz (.int .i64 3)])]) [] := fun hd => bad (by rw [nx, hd]; rfl)
        clear go bad nx
        refine ⟨by omega, _, rdI hlt, fun h34 => ?_, fun h34 => ⟨by omega, _, rdI hlt, ?_⟩⟩
        · have h34' : pkL (t.drop q) 0 = 34 := by rw [h0]; simpa using h34
          have hT := rText_ok t hs (by omega) (q + 1) (by omega)
          rw [w64 (by omega) (by omega)]
          unfold datV at go' bad'
          simp only [if_pos h34', List.drop_drop] at go' bad'
          cases hst : strF (t.length + 1) (t.drop (q + 1)) [] (q + 1) with
          | none =>
            rw [hst] at bad' hT
            exact ⟨_, _, hT, fun _ => bad' rfl, fun hx => absurd hx (by decide)⟩
          | some ae =>
            obtain ⟨a, e⟩ := ae
            rw [hst] at bad' go' hT
            simp only at bad' go'
            have hse := strF_le _ _ _ _ _ _ hst
            have hsc := strF_scals _ _ _ _ _ _ (hs.drop _) (by intro c hc; cases hc) hst
            rw [List.length_drop] at hse
            by_cases hl : 4096 < a.length
            · rw [show strZ (some (a, e)) = ([], -1) from if_pos hl] at hT
              exact ⟨_, _, hT, fun _ => bad' (if_neg (by omega)), fun hx => absurd hx (by decide)⟩
            · rw [show strZ (some (a, e)) = (a, (e : Int)) from if_neg hl] at hT
              refine ⟨_, _, hT, fun hx => absurd (of_decide_eq_true hx) (by omega), fun _ => ⟨_, rStr_ok a hsc (by omega), sz _, go' 5 (enc a) false [] e (by rw [if_pos (by omega)])⟩⟩
        · have h34' : pkL (t.drop q) 0 ≠ 34 := by rw [h0]; simpa using h34
          unfold datV at go' bad'
          simp only [if_neg h34', List.drop_drop] at go' bad'
          have atomS_ : pkL (t.drop q) 0 = 35 ∧ pkL (t.drop q) 1 = 92 → False ∨ True := fun _ => .inr trivial
          have un := untilN_le (t.drop q)
          rw [List.length_drop] at un
          have hbB : Bytes (enc ((t.drop q).take (untilN (t.drop q)))) := enc_bytes ((hs.drop q).take _)
          have hA := rAtom_ok (enc ((t.drop q).take (untilN (t.drop q)))) hbB (enc_le hlen _ _)
          have e1 : (t.take (q + untilN (t.drop q))).drop q = (t.drop q).take (untilN (t.drop q)) := by rw [List.drop_take]; congr 1; omega
          have hS := rStr_ok ((t.drop q).take (untilN (t.drop q))) ((hs.drop q).take _) (by simp; omega)
          have hU := rUntil_ok t (by omega) q (by omega)
          have atom : ¬ (pkL (t.drop q) 0 = 35 ∧ pkL (t.drop q) 1 = 92) →
              ((Bool.not (decide (atomK (enc ((t.drop q).take (untilN (t.drop q)))) ≠ 0)) = true → R (.tup [(false, [.fz (.sl 9 ([] : List (List FV)))]), (false, [.fz (.int .i64 ((q : Nat) : Int))]), (false, [.fz (.int .i64 3)])]) []) ∧
              (Bool.not (decide (atomK (enc ((t.drop q).take (untilN (t.drop q)))) ≠ 0)) = false → ref02_Scan_L1 R (ints .i64 t) ((q + untilN (t.drop q) : Nat) : Int) (toks acc ++ [[.int .i64 7, .str (ByteArray.mk #[]), .int .i64 (atomK (enc ((t.drop q).take (untilN (t.drop q))))), .str (bytesOf (atomS (enc ((t.drop q).take (untilN (t.drop q)))))), .bool (atomN (enc ((t.drop q).take (untilN (t.drop q))))), .sl 1 (ints .u32 (atomL (enc ((t.drop q).take (untilN (t.drop q)))))), .sl 6 ([] : List (List FV)), .int .i64 ((q : Nat) : Int), .int .i64 ((q : Nat) : Int)]]))) := fun hn => by
            simp only [if_neg hn] at go' bad'
            by_cases hk : atomK (enc ((t.drop q).take (untilN (t.drop q)))) ≠ 0
            · rw [decide_eq_true hk]
              exact ⟨fun h => absurd h (by decide), fun _ => go' _ _ _ _ _ (if_pos hk)⟩
            · rw [decide_eq_false hk]
              exact ⟨fun _ => bad' (if_neg hk), fun h => absurd h (by decide)⟩
          have bnd : (0 : Int) ≤ (q : Int) ∧ (q : Int) ≤ ((q + untilN (t.drop q) : Nat) : Int) ∧ ((q + untilN (t.drop q) : Nat) : Int) ≤ (t.length : Int) := ⟨by omega, by omega, by omega⟩
          have hStr : Fn Tryz.prog 42 [.one (.fz (.sl 1 (List.drop (Int.toNat ((q : Nat) : Int)) (List.take (Int.toNat ((q + untilN (t.drop q) : Nat) : Int)) (ints .i64 t)))))] [] (.one (.fz (.str (bytesOf (enc ((t.drop q).take (untilN (t.drop q)))))))) [] := by
            rw [Int.toNat_natCast, Int.toNat_natCast, ints_take, ints_drop, e1]; exact hS
          refine ⟨fun h35 => ?_, fun h35 => ?_⟩
          · have h35' : pkL (t.drop q) 0 = 35 := by rw [h0]; simpa using h35
            rw [w64 (n := (q : Int) + 1) (by omega) (by omega)]
            have hat1 := rAt_ok t (q + 1)
            rw [← hpL 1] at hat1
            refine ⟨_, hat1, fun h92 => ?_, fun h92 => ?_⟩
            · have h92' : pkL (t.drop q) 1 = 92 := by simpa using h92
              simp only [if_pos (show pkL (t.drop q) 0 = 35 ∧ pkL (t.drop q) 1 = 92 from ⟨h35', h92'⟩)] at go' bad'
              have hq1 : q + 2 ≤ t.length := by
                have := pkL_pos (r := t.drop q) (i := 1) (by omega)
                rw [List.length_drop] at this
                omega
              rw [w64 (n := (q : Int) + 2) (by omega) (by omega), w64 (n := (q : Int) + 3) (by omega) (by omega)]
              refine ⟨fun h2 => bad' ?_, fun h2 => ?_⟩
              · have hd : t.drop (q + 2) = [] := List.drop_eq_nil_of_le (by have := of_decide_eq_true h2; omega)
                rw [hd]; exact if_neg (by decide)
              · have hq2 : q + 2 < t.length := by have := of_decide_eq_false h2; omega
                have hd : t.drop (q + 2) ≠ [] := fun e => by have := congrArg List.length e; simp at this; omega
                have hU3 := rUntil_ok t (by omega) (q + 3) (by omega)
                have un3 := untilN_le (t.drop (q + 3))
                rw [List.length_drop] at un3
                have eN : chN_ (t.drop (q + 2)) = 1 + untilN (t.drop (q + 3)) := by unfold chN_; rw [List.drop_drop]
                have e3 : (t.take (q + 3 + untilN (t.drop (q + 3)))).drop (q + 2) = (t.drop (q + 2)).take (chN_ (t.drop (q + 2))) := by rw [List.drop_take]; congr 1; omega
                have hS3 := rStr_ok ((t.drop (q + 2)).take (chN_ (t.drop (q + 2)))) ((hs.drop _).take _) (by simp; omega)
                have hbB3 : Bytes (chB (t.drop (q + 2))) := enc_bytes ((hs.drop _).take _)
                have hbl : (chB (t.drop (q + 2))).length ≤ 16777216 := enc_le hlen _ _
                have hN := rNamed_ok (chB (t.drop (q + 2))) hbB3 hbl
                have hcv : chV (t.drop (q + 2)) = namedV (chB (t.drop (q + 2))) := by unfold chV; rw [if_neg hd]
                have hcq : q + 2 + chQ (t.drop (q + 2)) = q + 3 + untilN (t.drop (q + 3)) := by unfold chQ; rw [if_neg hd, eN]; omega
                rw [← hcv] at hN
                have hsc := namedV_scal hbB3
                rw [← hcv] at hsc
                rw [hcq] at go'
                refine ⟨_, hU3, ⟨by omega, by omega, by omega⟩, _, ?_, _, _, hN, fun hx => ?_, fun hx => ?_⟩
                · rw [Int.toNat_natCast, show Int.toNat ((q : Int) + 2) = q + 2 by omega, ints_take, ints_drop, e3]; exact hS3
                · exact bad' (if_neg (by simpa using hx))
                · have hv : 0 ≤ chV (t.drop (q + 2)) := by simpa using hx
                  rw [if_pos hv]
                  have hsc' : scalB (chV (t.drop (q + 2))) = true := by
                    rcases hsc with h | h
                    · omega
                    · exact h
                  exact ⟨_, rBytes_ok _ hsc', _, rfl, sz _, go' 6 _ false [] _ (if_pos hv)⟩
            · have h92' : pkL (t.drop q) 1 ≠ 92 := by simpa using h92
              exact ⟨_, hU, bnd, _, hStr, _, _, _, _, _, _, _, hA, (atom (fun h => h92' h.2)).1, fun h => ⟨sz _, (atom (fun h => h92' h.2)).2 h⟩⟩
          · have h35' : pkL (t.drop q) 0 ≠ 35 := by rw [h0]; simpa using h35
            exact ⟨_, hU, bnd, _, hStr, _, _, _, _, _, _, _, hA, (atom (fun h => h35' h.1)).1, fun h => ⟨sz _, (atom (fun h => h35' h.1)).2 h⟩⟩
    · have hge : t.length ≤ q := by have := of_decide_eq_false h; omega
      rw [if_pos hge] at hR
      exact hR
theorem rScan0_loop (t : List Int) (hlen : t.length ≤ 4000000) (R : TV → List Ob → Prop) (hR : R (scT (scanV t)) []) : ∀ (m j : Nat), t.length - j = m → j ≤ badN t → ref02_Scan_L0 R (ints .i64 t) j := by
  have hle := badN_le t
  unfold scanV at hR
  intro m
  induction m with
  | zero =>
    intro j hj h
    refine ref02_Scan_l0 ?_
    unfold ref02_Scan_R0
    rw [ints_len]
    refine ⟨fun h => absurd (of_decide_eq_true h) (by omega), fun _ => ?_⟩
    have hb : ¬ badN t < t.length := by omega
    rw [if_neg hb] at hR
    exact rScan_loop t (badN_scals hb) hlen R (t.length + 1) 0 [] (by omega) (by omega) (by simp) hR
  | succ m ih =>
    intro j hj h
    have hlt : j < t.length := by omega
    refine ref02_Scan_l0 ?_
    unfold ref02_Scan_R0
    rw [ints_len]
    refine ⟨fun _ => ⟨by omega, _, rdI hlt, _, rScalar_ok _, fun hb => ?_, fun hb => ?_⟩, fun h => absurd (of_decide_eq_false h) (by omega)⟩
    · have : ¬ j < badN t := fun h2 => by
        have := (badN_spec t j).1 h2
        rw [this] at hb; cases hb
      have e : badN t = j := by omega
      rw [e, if_pos hlt] at hR
      exact hR
    · have hb' : scalB (rd t j) = true := by simpa using hb
      have : badN t ≠ j := fun e => by
        have := (badN_spec t j).2 (by omega)
        rw [e, hb'] at this; cases this
      rw [w64 (by omega) (by omega)]
      exact ih (j + 1) (by omega) (by omega)
theorem rScan_ok (t : List Int) (hlen : t.length ≤ 4000000) : Fn Tryz.prog 13 [fzS .i64 t] [] (scT (scanV t)) [] := by
  refine ref02_Scan_fn _ ?_
  obtain ⟨R, hR, hRe⟩ := exR (scT (scanV t)); rw [hRe]; clear hRe
  unfold ref02_Scan_H
  exact rScan0_loop t hlen R hR _ 0 rfl (Nat.zero_le _)
end Go.Proofs.YtejefchehdifhaaGreatDoor.Ev
end
section
set_option linter.unusedVariables false
set_option linter.unusedSimpArgs false
namespace Go.Proofs.YtejefchehdifhaaGreatDoor.Ev
open Go
def All64 (l : List Int) : Prop := (∀ x ∈ l, I64 x) ∧ l.length * 8 ≤ 140737488355328
theorem ty_i64s {fs : List FV} (h : Ty Tryz.prog 22 fs) : ∃ l, fs = [.sl 1 (ints .i64 l)] ∧ All64 l := by
  obtain ⟨l, rfl, h1, h2⟩ := h.inv_ints Tryz.underlying22 Tryz.underlying3 (by kernel_rfl)
  refine ⟨l, rfl, fun x hx => h1 x hx, ?_⟩
  have e : Tryz.prog.bytesOf 3 = 8 := by kernel_rfl
  rw [e] at h2
  exact Nat.le_trans h2 (by decide)
end Go.Proofs.YtejefchehdifhaaGreatDoor.Ev
end
section
set_option linter.unusedVariables false
set_option linter.unusedSimpArgs false
namespace Go.Proofs.YtejefchehdifhaaGreatDoor.Ev
open Go
theorem drow_at {xs : List Dt} {i : Nat} {x : Dt} (h : xs[i]? = some x) : (Dt.rows xs)[i]? = some x.row := by rw [rows_get, h]; rfl
end Go.Proofs.YtejefchehdifhaaGreatDoor.Ev
end
section
set_option linter.unusedVariables false
set_option linter.unusedSimpArgs false
namespace Go.Proofs.YtejefchehdifhaaGreatDoor.Ev
open Go
theorem str_eq (a b : ByteArray) : (ByteArray.toList a == ByteArray.toList b) = decide (a = b) := by
  have := eq_bytes (bs_bytes a) (bs_bytes b)
  rw [of_bs, of_bs] at this
  rw [this, decide_eq_decide]
  exact ⟨fun h => bs_inj h, fun h => by rw [h]⟩
theorem len_bne (n m : Nat) : (((n : Nat) : Int) != ((m : Nat) : Int)) = !decide (n = m) := by
  rw [Bool.eq_iff_iff]; simp [bne]; omega
mutual
def Dt.same : Dt → Dt → Bool
  | .mk k t n l xs _, .mk k' t' n' l' ys _ => decide (k = k') && (decide (t = t') && (decide (n = n' ∧ l = l') && (decide (xs.length = ys.length) && Dt.sameL xs ys)))
def Dt.sameL : List Dt → List Dt → Bool
  | [], _ => true
  | x :: xs, ys => match ys with
    | [] => true
    | y :: ys => x.same y && Dt.sameL xs ys
end
theorem sameL_cons (x y : Dt) (xs ys : List Dt) : Dt.sameL (x :: xs) (y :: ys) = (x.same y && Dt.sameL xs ys) := by simp only [Dt.sameL]
mutual
theorem same_self' : ∀ x : Dt, x.same x = true
  | .mk k t n l xs a => by
    unfold Dt.same
    rw [sameL_self xs]; simp
theorem sameL_self : ∀ xs : List Dt, Dt.sameL xs xs = true
  | [] => by simp only [Dt.sameL]
  | x :: xs => by rw [sameL_cons, same_self' x, sameL_self xs]; rfl
end
theorem rSame_loop (k : Int) (t : ByteArray) (n : Bool) (l : List Int) (a : Int) (k' : Int) (t' : ByteArray) (n' : Bool) (l' : List Int) (a' : Int) (xs ys : List Dt) (hl : xs.length ≤ 1048576) (hxy : xs.length = ys.length)
    (hp : ∀ x ∈ xs, ∀ y, Fn Tryz.prog 17 [fzD x, fzD y] [] (fzB (x.same y)) [])
    (R : TV → List Ob → Prop) (hR : R (fzB (Dt.sameL xs ys)) []) : ∀ (d j : Nat), j + d = xs.length → Dt.sameL xs ys = Dt.sameL (xs.drop j) (ys.drop j) → ref02_Same_L0 R k t n (ints .u32 l) (Dt.rows xs) a k' t' n' (ints .u32 l') (Dt.rows ys) a' j
  | 0, j, hj, h => by
    refine ref02_Same_l0 ?_
    unfold ref02_Same_R0
    rw [rows_len, dec_t, dec_f]
    refine ⟨fun h => by omega, fun _ => ?_⟩
    rw [h, List.drop_of_length_le (by omega)] at hR
    simpa only [Dt.sameL] using hR
  | d + 1, j, hj, h => by
    have hF := hp xs[j] (List.getElem_mem _) (ys[j]'(by omega))
    have hr := drow_at (List.getElem?_eq_getElem (show j < xs.length by omega))
    have hr2 := drow_at (List.getElem?_eq_getElem (show j < ys.length by omega))
    have hd : xs.drop j = xs[j] :: xs.drop (j + 1) := List.drop_eq_getElem_cons (by omega)
    have hd2 : ys.drop j = ys[j]'(by omega) :: ys.drop (j + 1) := List.drop_eq_getElem_cons (by omega)
    rw [hd, hd2, sameL_cons] at h
    generalize xs[j] = y at hF hr h
    generalize ys[j]'(by omega) = z at hF hr2 h
    obtain ⟨k1, t1, n1, l1, ys1, a1⟩ := y
    obtain ⟨k2, t2, n2, l2, ys2, a2⟩ := z
    unfold fzD at hF
    simp only [Dt.row, List.map_cons, List.map_nil] at hF hr hr2
    refine ref02_Same_l0 ?_
    unfold ref02_Same_R0
    have e : IntKind.wrap .i64 ((j : Int) + 1) = ((j + 1 : Nat) : Int) := w64 (by omega) (by omega)
    rw [rows_len, dec_t, dec_f, e]
    refine ⟨fun _ => ⟨by omega, _, _, _, _, _, _, hr, by omega, _, _, _, _, _, _, hr2, _, hF, ?_⟩, fun h => by omega⟩
    rw [not_t, not_f]
    refine ⟨fun h1 => ?_, fun h1 => ?_⟩
    · rw [h, h1, Bool.false_and] at hR; exact hR
    · exact rSame_loop k t n l a k' t' n' l' a' xs ys hl hxy hp R hR d (j + 1) (by omega) (by rw [h, h1, Bool.true_and])
mutual
theorem rSame_ok : ∀ (x y : Dt), x.ok → Fn Tryz.prog 17 [fzD x, fzD y] [] (fzB (x.same y)) []
  | .mk k t n l xs a, .mk k' t' n' l' ys a', hok => by
    unfold Dt.ok at hok
    obtain ⟨_, _, _, hl4, hxl, hxs, _⟩ := hok
    have hall := rSame_all xs hxs
    obtain ⟨R, hR, hRe⟩ := exR (fzB ((Dt.mk k t n l xs a).same (.mk k' t' n' l' ys a')))
    unfold fzD
    simp only [Dt.row, List.map_cons, List.map_nil]
    refine ref02_Same_fn _ _ _ _ _ _ _ _ _ _ _ _ ?_
    rw [hRe]
    clear hRe
    unfold ref02_Same_H
    unfold Dt.same at hR
    rw [str_eq, rows_len, rows_len, len_bne, bne_t, bne_f, not_t, not_f, dec_t, not_t, not_f]
    refine ⟨fun h => ?_, fun h => ⟨fun h2 => ?_, fun h2 => ⟨_, same_ok n n' l l' (by omega), ?_⟩⟩⟩
    · rw [decide_eq_false h, Bool.false_and] at hR; exact hR
    · rw [decide_eq_true h, h2] at hR; exact hR
    · rw [not_t, not_f]
      refine ⟨fun h3 => ?_, fun h3 => ⟨fun h4 => ?_, fun h4 => ?_⟩⟩
      · rw [decide_eq_true h, decide_eq_true h2, h3] at hR; exact hR
      · rw [decide_eq_true h, decide_eq_true h2, h3, h4] at hR; exact hR
      · rw [decide_eq_true h, decide_eq_true h2, h3, h4, Bool.true_and, Bool.true_and, Bool.true_and, Bool.true_and] at hR
        exact rSame_loop k t n l a k' t' n' l' a' xs ys hxl (of_decide_eq_true h4) hall R hR xs.length 0 (by omega) rfl
theorem rSame_all : ∀ (xs : List Dt), Dt.oks xs → ∀ x ∈ xs, ∀ y, Fn Tryz.prog 17 [fzD x, fzD y] [] (fzB (x.same y)) []
  | [], hok => fun x hx => by cases hx
  | z :: xs, hok => fun x hx y => by
    unfold Dt.oks at hok
    have h1 := rSame_ok z y hok.1
    have h2 := rSame_all xs hok.2
    rcases List.mem_cons.1 hx with rfl | hx
    · exact h1
    · exact h2 x hx y
end
end Go.Proofs.YtejefchehdifhaaGreatDoor.Ev
end
section
set_option linter.unusedVariables false
set_option maxRecDepth 100000
namespace Go.Proofs.YtejefchehdifhaaGreatDoor.Ev
open Go
def ref02_CharsO_lv : List Nat → Keep := lvOf [([0, 0, 1, 1, 1], ⟨49, 0, [], false, false⟩)]
def ref02_CharsO_S0 (b : List (List FV)) (at_ : Int) (o : List (List FV)) : St := (St.mk [(TV.one (AV.fz (FV.sl 1 b))), TV.und, TV.und, TV.und, (TV.one (AV.ofl 1 0)), (TV.one (AV.fz (FV.int .i64 at_))), TV.und, TV.und, TV.und, TV.und, TV.und, TV.und, TV.und, TV.und, TV.und, TV.und, TV.und, TV.und, TV.und, TV.und, TV.und, TV.und, TV.und, TV.und, TV.und, TV.und, TV.und, TV.und, TV.und] [(Ob.f 0 1 o)])
def ref02_CharsO_L0 (R : TV → List Ob → Prop) (b : List (List FV)) (at_ : Int) (o : List (List FV)) : Prop := LoopAt Tryz.prog (modeOf [] []) ref02_CharsO_lv Tryz.f30 (some 0) R [1, 1, 1, 0, 0] (ref02_CharsO_S0 b at_ o)
def ref02_CharsO_R0 (R : TV → List Ob → Prop) (b : List (List FV)) (at_ : Int) (o : List (List FV)) : Prop :=
  ((((decide (at_ < (((List.length b) : Nat) : Int))) = true) → (∃ n4 : Int, (∃ n5 : Int, ((Fn Tryz.prog 67 [(TV.one (AV.fz (FV.sl 1 b))), (TV.one (AV.fz (FV.int .i64 at_)))] [] (TV.tup [(false, [(AV.fz (FV.int .i64 n4))]), (false, [(AV.fz (FV.int .i64 n5))])]) []) ∧ ((((n5 == 0) = true) → (R (TV.tup [(false, [(AV.ofl 1 0)]), (false, [(AV.fz (FV.int .i64 at_))])]) [(Ob.f 0 1 ([] : List (List FV)))])) ∧ (((n5 == 0) = false) → (((((List.length o) + (List.length [[(FV.int .i64 n4)]])) * 8) ≤ 220000000000000) ∧ (ref02_CharsO_L0 R b (IntKind.wrap .i64 (at_ + n5)) (o ++ [[(FV.int .i64 n4)]]))))))))) ∧ (((decide (at_ < (((List.length b) : Nat) : Int))) = false) → (R (TV.tup [(false, [(AV.ofl 1 0)]), (false, [(AV.fz (FV.int .i64 (-1)))])]) [(Ob.f 0 1 o)])))
theorem ref02_CharsO_l0 {R : TV → List Ob → Prop} {b : List (List FV)} {at_ : Int} {o : List (List FV)} (h : ref02_CharsO_R0 R b at_ o) : ref02_CharsO_L0 R b at_ o :=
  LoopAt.by_tr (by kernel_rfl) (by kernel_rfl) h
def ref02_CharsO_H (R : TV → List Ob → Prop) (b : List (List FV)) : Prop :=
  (ref02_CharsO_L0 R b 0 ([] : List (List FV)))
theorem ref02_CharsO_fn (b : List (List FV)) {r : TV} {h : List Ob} (H : ref02_CharsO_H (fun r' h' => r' = r ∧ Wk h' h) b) : Fn Tryz.prog 30 [(TV.one (AV.fz (FV.sl 1 b)))] [] r h :=
  Fn.by_trW (M := (modeOf [] [])) (lv := ref02_CharsO_lv) (own := (some 0)) (F := Tryz.f30) (by kernel_rfl) (by kernel_rfl) (by first | decide | simp) (fun _ _ h => h) (by kernel_rfl) H
def law03_charsO_lv : List Nat → Keep := lvOf []
def law03_charsO_H (R : TV → List Ob → Prop) (s : ByteArray) : Prop :=
  (∃ es1 : List (List FV), (∃ n1 : Int, ((Fn Tryz.prog 30 [(TV.one (AV.fz (FV.sl 1 (List.map (fun b3 => [(FV.int .u8 (((UInt8.toNat b3) : Nat) : Int))]) (Array.toList (ByteArray.data s))))))] [] (TV.tup [(false, [(AV.ofl 1 0)]), (false, [(AV.fz (FV.int .i64 n1))])]) [(Ob.f 0 1 es1)]) ∧ (R (TV.one (AV.ofl 1 0)) [(Ob.f 0 1 es1)]))))
theorem law03_charsO_fn (s : ByteArray) {r : TV} {h : List Ob} (H : law03_charsO_H (fun r' h' => r' = r ∧ Wk h' h) s) : Fn Tryz.prog 10 [(TV.one (AV.fz (FV.str s)))] [] r h :=
  Fn.by_trW (M := (modeOf [30] [])) (lv := law03_charsO_lv) (own := (some 0)) (F := Tryz.f10) (by kernel_rfl) (by kernel_rfl) (by first | decide | simp) (fun _ _ h => h) (by kernel_rfl) H
end Go.Proofs.YtejefchehdifhaaGreatDoor.Ev
end
section
set_option linter.unusedVariables false
set_option maxRecDepth 100000
namespace Go.Proofs.YtejefchehdifhaaGreatDoor.Ev
open Go
def law03_answers_lv : List Nat → Keep := lvOf []
def law03_answers_H (R : TV → List Ob → Prop)  : Prop :=
  (∃ es3 : List (List FV), (∃ n6 : Int, (∃ n7 : Int, ((Fn Tryz.prog 12 [(TV.one (AV.fz (FV.sl 1 [[(FV.int .i64 40)], [(FV.int .i64 97)], [(FV.int .i64 41)]])))] [] (TV.tup [(false, [(AV.fz (FV.sl 9 es3))]), (false, [(AV.fz (FV.int .i64 n6))]), (false, [(AV.fz (FV.int .i64 n7))])]) []) ∧ ((((n7 == 0) = true) → (((((((List.length es3) : Nat) : Int) == 3) = true) → (((0 : Int) ≤ 1) ∧ (∃ n8 : Int, (∃ s2 : ByteArray, (∃ n9 : Int, (∃ s3 : ByteArray, (∃ b1 : Bool, (∃ es4 : List (List FV), (∃ es5 : List (List FV), (∃ n10 : Int, (∃ n11 : Int, (((es3)[(Int.toNat 1)]? = (some [(FV.int .i64 n8), (FV.str s2), (FV.int .i64 n9), (FV.str s3), (FV.bool b1), (FV.sl 1 es4), (FV.sl 6 es5), (FV.int .i64 n10), (FV.int .i64 n11)])) ∧ (R (TV.one (AV.fz (FV.bool ((ByteArray.toList s3) == (ByteArray.toList (ByteArray.mk #[97])))))) []))))))))))))) ∧ ((((((List.length es3) : Nat) : Int) == 3) = false) → (R (TV.one (AV.fz (FV.bool false))) [])))) ∧ (((n7 == 0) = false) → (R (TV.one (AV.fz (FV.bool false))) [])))))))
theorem law03_answers_fn  {r : TV} {h : List Ob} (H : law03_answers_H (fun r' h' => r' = r ∧ h' = h) ) : Fn Tryz.prog 11 [] [] r h :=
  Fn.by_tr (M := (modeOf [] [])) (lv := law03_answers_lv) (own := none) (F := Tryz.f11) (by kernel_rfl) (by kernel_rfl) (by first | decide | simp) (fun _ _ h => h) (by kernel_rfl) H
def law03_same_lv : List Nat → Keep := lvOf [([0, 1, 0, 1, 1], ⟨35, 0, [], false, false⟩)]
def law03_same_S0 (a : List (List FV)) (b : List (List FV)) (i : Int) : St := (St.mk [(TV.one (AV.fz (FV.sl 9 a))), (TV.one (AV.fz (FV.sl 9 b))), TV.und, TV.und, TV.und, (TV.one (AV.fz (FV.int .i64 i))), TV.und, TV.und, TV.und, TV.und, TV.und, TV.und, TV.und, TV.und, TV.und, TV.und, TV.und, TV.und, TV.und, TV.und, TV.und, TV.und, TV.und, TV.und, TV.und, TV.und, TV.und, TV.und, TV.und, TV.und, TV.und, TV.und, TV.und, TV.und, TV.und, TV.und, TV.und, TV.und, TV.und, TV.und, TV.und, TV.und, TV.und, TV.und, TV.und, TV.und, TV.und, TV.und, TV.und, TV.und, TV.und, TV.und, TV.und, TV.und, TV.und, TV.und, TV.und, TV.und, TV.und, TV.und, TV.und, TV.und, TV.und, TV.und, TV.und, TV.und, TV.und, TV.und, TV.und, TV.und, TV.und, TV.und, TV.und, TV.und, TV.und, TV.und, TV.und, TV.und, TV.und, TV.und, TV.und, TV.und, TV.und] [])
def law03_same_L0 (R : TV → List Ob → Prop) (a : List (List FV)) (b : List (List FV)) (i : Int) : Prop := LoopAt Tryz.prog (modeOf [] []) law03_same_lv Tryz.f14 none R [1, 1, 0, 1, 0] (law03_same_S0 a b i)
def law03_same_R0 (R : TV → List Ob → Prop) (a : List (List FV)) (b : List (List FV)) (i : Int) : Prop :=
  ((((decide (i < (((List.length a) : Nat) : Int))) = true) → (((0 : Int) ≤ i) ∧ (∃ n80 : Int, (∃ s40 : ByteArray, (∃ n81 : Int, (∃ s41 : ByteArray, (∃ b23 : Bool, (∃ es40 : List (List FV), (∃ es41 : List (List FV), (∃ n82 : Int, (∃ n83 : Int, (((a)[(Int.toNat i)]? = (some [(FV.int .i64 n80), (FV.str s40), (FV.int .i64 n81), (FV.str s41), (FV.bool b23), (FV.sl 1 es40), (FV.sl 6 es41), (FV.int .i64 n82), (FV.int .i64 n83)])) ∧ (((0 : Int) ≤ i) ∧ (∃ n84 : Int, (∃ s42 : ByteArray, (∃ n85 : Int, (∃ s43 : ByteArray, (∃ b24 : Bool, (∃ es42 : List (List FV), (∃ es43 : List (List FV), (∃ n86 : Int, (∃ n87 : Int, (((b)[(Int.toNat i)]? = (some [(FV.int .i64 n84), (FV.str s42), (FV.int .i64 n85), (FV.str s43), (FV.bool b24), (FV.sl 1 es42), (FV.sl 6 es43), (FV.int .i64 n86), (FV.int .i64 n87)])) ∧ ((((n80 != n84) = true) → (R (TV.one (AV.fz (FV.bool false))) [])) ∧ (((n80 != n84) = false) → (((0 : Int) ≤ i) ∧ (∃ n88 : Int, (∃ s44 : ByteArray, (∃ n89 : Int, (∃ s45 : ByteArray, (∃ b25 : Bool, (∃ es44 : List (List FV), (∃ es45 : List (List FV), (∃ n90 : Int, (∃ n91 : Int, (((a)[(Int.toNat i)]? = (some [(FV.int .i64 n88), (FV.str s44), (FV.int .i64 n89), (FV.str s45), (FV.bool b25), (FV.sl 1 es44), (FV.sl 6 es45), (FV.int .i64 n90), (FV.int .i64 n91)])) ∧ (((0 : Int) ≤ i) ∧ (∃ n92 : Int, (∃ s46 : ByteArray, (∃ n93 : Int, (∃ s47 : ByteArray, (∃ b26 : Bool, (∃ es46 : List (List FV), (∃ es47 : List (List FV), (∃ n94 : Int, (∃ n95 : Int, (((b)[(Int.toNat i)]? = (some [(FV.int .i64 n92), (FV.str s46), (FV.int .i64 n93), (FV.str s47), (FV.bool b26), (FV.sl 1 es46), (FV.sl 6 es47), (FV.int .i64 n94), (FV.int .i64 n95)])) ∧ ((((Bool.not ((ByteArray.toList s44) == (ByteArray.toList s46))) = true) → (R (TV.one (AV.fz (FV.bool false))) [])) ∧ (((Bool.not ((ByteArray.toList s44) == (ByteArray.toList s46))) = false) → (((0 : Int) ≤ i) ∧ (∃ n96 : Int, (∃ s48 : ByteArray, (∃ n97 : Int, (∃ s49 : ByteArray, (∃ b27 : Bool, (∃ es48 : List (List FV), (∃ es49 : List (List FV), (∃ n98 : Int, (∃ n99 : Int, (((a)[(Int.toNat i)]? = (some [(FV.int .i64 n96), (FV.str s48), (FV.int .i64 n97), (FV.str s49), (FV.bool b27), (FV.sl 1 es48), (FV.sl 6 es49), (FV.int .i64 n98), (FV.int .i64 n99)])) ∧ (((0 : Int) ≤ i) ∧ (∃ n100 : Int, (∃ s50 : ByteArray, (∃ n101 : Int, (∃ s51 : ByteArray, (∃ b28 : Bool, (∃ es50 : List (List FV), (∃ es51 : List (List FV), (∃ n102 : Int, (∃ n103 : Int, (((b)[(Int.toNat i)]? = (some [(FV.int .i64 n100), (FV.str s50), (FV.int .i64 n101), (FV.str s51), (FV.bool b28), (FV.sl 1 es50), (FV.sl 6 es51), (FV.int .i64 n102), (FV.int .i64 n103)])) ∧ ((((n99 != n103) = true) → (R (TV.one (AV.fz (FV.bool false))) [])) ∧ (((n99 != n103) = false) → (((0 : Int) ≤ i) ∧ (∃ n104 : Int, (∃ s52 : ByteArray, (∃ n105 : Int, (∃ s53 : ByteArray, (∃ b29 : Bool, (∃ es52 : List (List FV), (∃ es53 : List (List FV), (∃ n106 : Int, (∃ n107 : Int, (((a)[(Int.toNat i)]? = (some [(FV.int .i64 n104), (FV.str s52), (FV.int .i64 n105), (FV.str s53), (FV.bool b29), (FV.sl 1 es52), (FV.sl 6 es53), (FV.int .i64 n106), (FV.int .i64 n107)])) ∧ (((0 : Int) ≤ i) ∧ (∃ n108 : Int, (∃ s54 : ByteArray, (∃ n109 : Int, (∃ s55 : ByteArray, (∃ b30 : Bool, (∃ es54 : List (List FV), (∃ es55 : List (List FV), (∃ n110 : Int, (∃ n111 : Int, (((b)[(Int.toNat i)]? = (some [(FV.int .i64 n108), (FV.str s54), (FV.int .i64 n109), (FV.str s55), (FV.bool b30), (FV.sl 1 es54), (FV.sl 6 es55), (FV.int .i64 n110), (FV.int .i64 n111)])) ∧ (∃ b31 : Bool, ((Fn Tryz.prog 17 [(TV.agg [(AV.fz (FV.int .i64 n105)), (AV.fz (FV.str s53)), (AV.fz (FV.bool b29)), (AV.fz (FV.sl 1 es52)), (AV.fz (FV.sl 6 es53)), (AV.fz (FV.int .i64 n106))]), (TV.agg [(AV.fz (FV.int .i64 n109)), (AV.fz (FV.str s55)), (AV.fz (FV.bool b30)), (AV.fz (FV.sl 1 es54)), (AV.fz (FV.sl 6 es55)), (AV.fz (FV.int .i64 n110))])] [] (TV.one (AV.fz (FV.bool b31))) []) ∧ ((((Bool.not b31) = true) → (R (TV.one (AV.fz (FV.bool false))) [])) ∧ (((Bool.not b31) = false) → (((0 : Int) ≤ i) ∧ (∃ n112 : Int, (∃ s56 : ByteArray, (∃ n113 : Int, (∃ s57 : ByteArray, (∃ b32 : Bool, (∃ es56 : List (List FV), (∃ es57 : List (List FV), (∃ n114 : Int, (∃ n115 : Int, (((a)[(Int.toNat i)]? = (some [(FV.int .i64 n112), (FV.str s56), (FV.int .i64 n113), (FV.str s57), (FV.bool b32), (FV.sl 1 es56), (FV.sl 6 es57), (FV.int .i64 n114), (FV.int .i64 n115)])) ∧ (((0 : Int) ≤ i) ∧ (∃ n116 : Int, (∃ s58 : ByteArray, (∃ n117 : Int, (∃ s59 : ByteArray, (∃ b33 : Bool, (∃ es58 : List (List FV), (∃ es59 : List (List FV), (∃ n118 : Int, (∃ n119 : Int, (((b)[(Int.toNat i)]? = (some [(FV.int .i64 n116), (FV.str s58), (FV.int .i64 n117), (FV.str s59), (FV.bool b33), (FV.sl 1 es58), (FV.sl 6 es59), (FV.int .i64 n118), (FV.int .i64 n119)])) ∧ ((((n114 != n118) = true) → (R (TV.one (AV.fz (FV.bool false))) [])) ∧ (((n114 != n118) = false) → (law03_same_L0 R a b (IntKind.wrap .i64 (i + 1)))))))))))))))))))))))))))))))))))))))))))))))))))))))))))))))))))))))))))))))))))))))))))))))))))))))))))))))))))))))))))))) ∧ (((decide (i < (((List.length a) : Nat) : Int))) = false) → (R (TV.one (AV.fz (FV.bool true))) [])))
theorem law03_same_l0 {R : TV → List Ob → Prop} {a : List (List FV)} {b : List (List FV)} {i : Int} (h : law03_same_R0 R a b i) : law03_same_L0 R a b i :=
  LoopAt.by_tr (by kernel_rfl) (by kernel_rfl) h
def law03_same_H (R : TV → List Ob → Prop) (a : List (List FV)) (b : List (List FV)) : Prop :=
  (((((((List.length a) : Nat) : Int) != (((List.length b) : Nat) : Int)) = true) → (R (TV.one (AV.fz (FV.bool false))) [])) ∧ ((((((List.length a) : Nat) : Int) != (((List.length b) : Nat) : Int)) = false) → (law03_same_L0 R a b 0)))
theorem law03_same_fn (a : List (List FV)) (b : List (List FV)) {r : TV} {h : List Ob} (H : law03_same_H (fun r' h' => r' = r ∧ h' = h) a b) : Fn Tryz.prog 14 [(TV.one (AV.fz (FV.sl 9 a))), (TV.one (AV.fz (FV.sl 9 b)))] [] r h :=
  Fn.by_tr (M := (modeOf [] [])) (lv := law03_same_lv) (own := none) (F := Tryz.f14) (by kernel_rfl) (by kernel_rfl) (by first | decide | simp) (fun _ _ h => h) (by kernel_rfl) H
end Go.Proofs.YtejefchehdifhaaGreatDoor.Ev
end
section
set_option linter.unusedVariables false
set_option linter.unusedSimpArgs false
namespace Go.Proofs.YtejefchehdifhaaGreatDoor.Ev
open Go
theorem I64.of {n : Int} (h0 : -1000000000000000000 ≤ n) (h1 : n ≤ 1000000000000000000) : I64 n := ⟨by omega, by omega⟩
theorem lf_ok {k : Int} {s : List Int} {n : Bool} {l : List Int} {a : Int} (hk : I64 k) (hs : s.length ≤ 1048576) (hl : U32 l) (hll : l.length ≤ 1000000) (ha : I64 a) : (lf k s n l a).ok := by
  unfold lf Dt.ok
  refine ⟨hk, by rw [size_of]; exact hs, hl, by omega, by simp, ?_, ha⟩
  unfold Dt.oks; trivial
theorem atomK_in (T : List Int) : 0 ≤ atomK T ∧ atomK T ≤ 9 := by
  unfold atomK
  repeat' split
  all_goals omega
theorem atomL_in (T : List Int) : U32 (atomL T) ∧ (atomL T).length ≤ 64 := by
  unfold atomL ptL mkL
  split
  · split
    · split
      · exact ⟨Lim.nil _, by simp⟩
      · rename_i h
        refine ⟨fun x hx => ?_, digs_nine _ 64 (by omega)⟩
        have := digsB_lim _ x hx
        omega
    · exact ⟨Lim.nil _, by simp⟩
  · exact ⟨Lim.nil _, by simp⟩
theorem atomS_in (T : List Int) : (atomS T).length ≤ 64 := by
  unfold atomS
  split
  · rename_i h
    unfold atomK at h
    split at h
    · omega
    · split at h
      · omega
      · split at h
        · omega
        · split at h
          · rename_i h2
            exact h2.2.2.1
          · omega
  · simp
theorem atom_ok (T : List Int) (a : Int) (ha : I64 a) : (lf (atomK T) (atomS T) (atomN T) (atomL T) a).ok := by
  have h1 := atomK_in T
  have h2 := atomL_in T
  have h3 := atomS_in T
  exact lf_ok (I64.of (by omega) (by omega)) (by omega) h2.1 (by omega) ha
theorem nextV_ok {t : List Int} (hlen : t.length ≤ 4000000) {p : Nat} {tok : Tok} {e : Nat} (hp : p ≤ t.length) (h : nextV t p = some (tok, e)) : tok.d.ok := by
  unfold nextV at h
  split at h
  · cases h
    exact lf_ok (I64.of (by omega) (by omega)) (by simp) (Lim.nil _) (by simp) (I64.of (by omega) (by omega))
  · split at h
    · rename_i k s n l e' hd
      cases h
      unfold datV at hd
      split at hd
      · split at hd
        · rename_i a e2 hst
          split at hd
          · rename_i hl
            cases hd
            have := enc_len a
            exact lf_ok (I64.of (by omega) (by omega)) (by omega) (Lim.nil _) (by simp) (I64.of (by omega) (by omega))
          · cases hd
        · cases hd
      · split at hd
        · split at hd
          · cases hd
            have := utfB_le (chV ((t.drop p).drop 2))
            exact lf_ok (I64.of (by omega) (by omega)) (by omega) (Lim.nil _) (by simp) (I64.of (by omega) (by omega))
          · cases hd
        · split at hd
          · cases hd
            exact atom_ok _ _ (I64.of (by omega) (by omega))
          · cases hd
    · cases h
def TokOk (x : Tok) : Prop := x.d.ok
theorem scanL_ok {t : List Int} (hlen : t.length ≤ 4000000) : ∀ (f p : Nat) (acc : List Tok), p ≤ t.length → (∀ x ∈ acc, TokOk x) → acc.length ≤ p → (∀ x ∈ (scanL f t p acc).1, TokOk x) ∧ (scanL f t p acc).1.length ≤ t.length
  | 0, p, acc, hp, h, hl => ⟨fun x hx => by simp [scanL] at hx, by simp [scanL]⟩
  | f + 1, p, acc, hp, h, hl => by
    unfold scanL
    have hb := blC_le false (t.drop p)
    rw [List.length_drop] at hb
    split
    · exact ⟨h, by simp only; omega⟩
    · split
      · rename_i tok e hn
        have hle := nextV_le (by omega) hn
        refine scanL_ok hlen f e _ (by omega) (fun x hx => ?_) (by simp; omega)
        rcases List.mem_append.1 hx with hx | hx
        · exact h x hx
        · simp at hx; rw [hx]; exact nextV_ok hlen (by omega) hn
      · exact ⟨fun x hx => by simp at hx, by simp⟩
theorem scanV_ok {t : List Int} (hlen : t.length ≤ 4000000) : (∀ x ∈ (scanV t).1, TokOk x) ∧ (scanV t).1.length ≤ t.length := by
  unfold scanV
  split
  · exact ⟨fun x hx => by simp at hx, by simp⟩
  · exact scanL_ok hlen _ _ _ (by omega) (fun x hx => by cases hx) (by simp)
theorem answers3_ok : Fn Tryz.prog 11 [] [] (fzB true) [] := by
  refine law03_answers_fn ?_
  unfold law03_answers_H
  have h := tScan_ok [40, 97, 41] (by simp)
  have e : scanV [40, 97, 41] = ([⟨1, [], lf 0 [] false [] 0, 0⟩, ⟨7, [], lf 4 [97] false [] 1, 1⟩, ⟨2, [], lf 0 [] false [] 0, 2⟩], 0, 0) := by kernel_rfl
  rw [e] at h
  refine ⟨_, _, _, h, fun _ => ⟨fun _ => ⟨by omega, _, _, _, _, _, _, _, _, _, rfl, ?_, rfl⟩, fun h => absurd h (by decide)⟩, fun h => absurd h (by decide)⟩
  rw [show ((bytesOf [97]).toList == (ByteArray.mk #[97]).toList) = true from by decide +kernel]
theorem tok_get {l : List Tok} {j : Nat} (h : j < l.length) : (toks l)[Int.toNat ((j : Nat) : Int)]? = some l[j].row := by
  rw [Int.toNat_natCast]; simp [toks, h]
theorem same3_loop (l : List Tok) (hl : l.length ≤ 100000000) (hok : ∀ x ∈ l, TokOk x) (R : TV → List Ob → Prop) (hR : R (fzB true) []) : ∀ (m j : Nat), l.length - j = m → law03_same_L0 R (toks l) (toks l) j := by
  intro m
  induction m with
  | zero =>
    intro j hj
    refine law03_same_l0 ?_
    unfold law03_same_R0
    rw [List.length_map]
    exact ⟨fun h => absurd (of_decide_eq_true h) (by omega), fun _ => hR⟩
  | succ m ih =>
    intro j hj
    have hlt : j < l.length := by omega
    have hg := tok_get hlt
    have hx := hok _ (List.getElem_mem hlt)
    unfold TokOk at hx
    have hS := rSame_ok _ (l[j].d) hx
    rw [same_self'] at hS
    generalize l[j] = x at *
    obtain ⟨k, nm, ⟨dk, dt, dn, dl, ds, da⟩, a⟩ := x
    unfold Tok.row at hg
    unfold fzD at hS
    simp only [Dt.row, List.map_cons, List.map_nil, List.cons_append, List.nil_append] at hg hS
    refine law03_same_l0 ?_
    unfold law03_same_R0
    rw [List.length_map, w64 (by omega) (by omega)]
    refine ⟨fun _ => ⟨by omega, _, _, _, _, _, _, _, _, _, hg, by omega, _, _, _, _, _, _, _, _, _, hg, fun h => absurd h (by simp), fun _ => ⟨by omega, _, _, _, _, _, _, _, _, _, hg, by omega, _, _, _, _, _, _, _, _, _, hg, fun h => absurd h (by simp), fun _ =>
      ⟨by omega, _, _, _, _, _, _, _, _, _, hg, by omega, _, _, _, _, _, _, _, _, _, hg, fun h => absurd h (by simp), fun _ => ⟨by omega, _, _, _, _, _, _, _, _, _, hg, by omega, _, _, _, _, _, _, _, _, _, hg, _, hS, fun h => absurd h (by decide), fun _ =>
      ⟨by omega, _, _, _, _, _, _, _, _, _, hg, by omega, _, _, _, _, _, _, _, _, _, hg, fun h => absurd h (by simp), fun _ => ih (j + 1) (by omega)⟩⟩⟩⟩⟩, fun h => absurd (of_decide_eq_false h) (by omega)⟩
theorem same3_ok (l : List Tok) (hl : l.length ≤ 100000000) (hok : ∀ x ∈ l, TokOk x) : Fn Tryz.prog 14 [.one (.fz (.sl 9 (toks l))), .one (.fz (.sl 9 (toks l)))] [] (fzB true) [] := by
  refine law03_same_fn _ _ ?_
  obtain ⟨R, hR, hRe⟩ := exR (fzB true); rw [hRe]; clear hRe
  unfold law03_same_H
  exact ⟨fun h => absurd h (by simp), fun _ => same3_loop l hl hok R hR _ 0 rfl⟩
theorem rCharsO_loop (l : List Int) (h : Bytes l) (hlen : l.length ≤ 20000000000000) (R : TV → List Ob → Prop)
    (hR : ∀ h', Wk h' [.f 0 1 (ints .i64 (chL l))] → R (.tup [(false, [.ofl 1 0]), (false, [.fz (.int .i64 (chars l).2)])]) h') :
    ∀ (f at_ : Nat) (acc : List Int), at_ ≤ l.length → l.length - at_ < f → acc.length ≤ at_ → chs f l at_ acc = chars l → ref02_CharsO_L0 R (ints .u8 l) at_ (ints .i64 acc)
  | 0, at_, acc, h1, h2, h3, h4 => by omega
  | f + 1, at_, acc, h1, h2, h3, h4 => by
    refine ref02_CharsO_l0 ?_
    unfold ref02_CharsO_R0
    unfold chs at h4
    simp only [ints_len]
    by_cases hat : l.length ≤ at_
    · rw [if_pos hat] at h4
      refine ⟨fun h => absurd (of_decide_eq_true h) (by omega), fun _ => ?_⟩
      unfold chL at hR
      rw [← h4, if_pos rfl] at hR
      exact hR _ (Wk.refl _)
    · rw [if_neg hat] at h4
      have hne : l.drop at_ ≠ [] := fun e => by have := congrArg List.length e; simp at this; omega
      have hO := one_ok l h (by omega) at_ (by omega)
      have hbd := ch1_bounds (drop_bytes h at_) hne
      rw [List.length_drop] at hbd
      refine ⟨fun _ => ⟨_, _, hO, fun h0 => ?_, fun h0 => ⟨by simp only [List.length_cons, List.length_nil]; omega, ?_⟩⟩, fun h => absurd (of_decide_eq_false h) (by omega)⟩
      · have h0' : (ch1 (l.drop at_)).2 = 0 := by simpa using h0
        rw [if_pos h0'] at h4
        unfold chL at hR
        rw [← h4] at hR
        simp only at hR
        rw [if_neg (by omega)] at hR
        exact hR _ (Wk.refl _)
      · have h0' : (ch1 (l.drop at_)).2 ≠ 0 := by simpa using h0
        rw [if_neg h0'] at h4
        rw [w64 (by omega) (by omega), ints_snoc, show (at_ : Int) + (ch1 (l.drop at_)).2 = ((at_ + (ch1 (l.drop at_)).2.toNat : Nat) : Int) by omega]
        exact rCharsO_loop l h hlen R hR f _ _ (by omega) (by omega) (by rw [List.length_append, List.length_singleton]; omega) h4
theorem rCharsO_ok (l : List Int) (h : Bytes l) (hlen : l.length ≤ 20000000000000) : Fn Tryz.prog 30 [fzS .u8 l] [] (.tup [(false, [.ofl 1 0]), (false, [.fz (.int .i64 (chars l).2)])]) [.f 0 1 (ints .i64 (chL l))] := by
  refine ref02_CharsO_fn _ ?_
  obtain ⟨R, hR, hRe⟩ := exW (.tup [(false, [.ofl 1 0]), (false, [.fz (.int .i64 (chars l).2)])]) [.f 0 1 (ints .i64 (chL l))]; rw [hRe]; clear hRe
  unfold ref02_CharsO_H
  exact rCharsO_loop l h hlen R hR (l.length + 1) 0 [] (by omega) (by omega) (by simp) rfl
theorem charsO_ok (T : List Int) (hT : Bytes T) (hlen : T.length ≤ 16777216) : Fn Tryz.prog 10 [.one (.fz (.str (bytesOf T)))] [] (.one (.ofl 1 0)) [.f 0 1 (ints .i64 (chL T))] := by
  refine law03_charsO_fn _ ?_
  obtain ⟨R, hR, hRe⟩ := exW (.one (.ofl 1 0)) [.f 0 1 (ints .i64 (chL T))]; rw [hRe]; clear hRe
  unfold law03_charsO_H
  rw [map_bs, bs_of hT]
  exact ⟨_, _, rCharsO_ok T hT (by omega), hR _ (Wk.refl _)⟩
theorem chs_le : ∀ (f at_ : Nat) (l acc : List Int), acc.length ≤ at_ → (∀ i, l.length ≤ i → True) → Bytes l → at_ ≤ l.length → (chs f l at_ acc).1.length ≤ l.length
  | 0, at_, l, acc, h, _, hb, hl => by simp [chs]
  | f + 1, at_, l, acc, h, h9, hb, hl => by
    unfold chs
    split
    · simp only; omega
    · split
      · simp
      · rename_i h1 h2
        have hne : l.drop at_ ≠ [] := fun e => by have := congrArg List.length e; simp at this; omega
        have hbd := ch1_bounds (drop_bytes hb at_) hne
        rw [List.length_drop] at hbd
        exact chs_le f _ l _ (by rw [List.length_append, List.length_singleton]; omega) h9 hb (by omega)
theorem chL_len {l : List Int} (hb : Bytes l) : (chL l).length ≤ l.length := by
  unfold chL
  split
  · exact chs_le _ _ _ _ (by simp) (fun _ _ => trivial) hb (by omega)
  · simp
end Go.Proofs.YtejefchehdifhaaGreatDoor.Ev
end
section
set_option linter.unusedVariables false
set_option maxRecDepth 100000
namespace Go.Proofs.YtejefchehdifhaaGreatDoor.Ev
open Go
def law03_TokenScans_lv : List Nat → Keep := lvOf []
def law03_TokenScans_H (R : TV → List Ob → Prop) (s : ByteArray) (more : List (List FV)) : Prop :=
  (∃ es3 : List (List FV), ((Fn Tryz.prog 10 [(TV.one (AV.fz (FV.str s)))] [] (TV.one (AV.ofl 1 0)) [(Ob.f 0 1 es3)]) ∧ (((((List.length es3) + (List.length more)) * 8) ≤ 220000000000000) ∧ ((((decide ((20000 : Int) < (((List.length (es3 ++ more)) : Nat) : Int))) = true) → (∃ b3 : Bool, ((Fn Tryz.prog 11 [] [] (TV.one (AV.fz (FV.bool b3))) []) ∧ (R (TV.one (AV.fz (FV.bool b3))) [])))) ∧ (((decide ((20000 : Int) < (((List.length (es3 ++ more)) : Nat) : Int))) = false) → (((((List.length ([] : List (List FV))) + (List.length (es3 ++ more))) * 8) ≤ 220000000000000) ∧ (∃ es4 : List (List FV), (∃ n4 : Int, (∃ n5 : Int, ((Fn Tryz.prog 12 [(TV.one (AV.fz (FV.sl 1 (([] : List (List FV)) ++ (es3 ++ more)))))] [] (TV.tup [(false, [(AV.fz (FV.sl 9 es4))]), (false, [(AV.fz (FV.int .i64 n4))]), (false, [(AV.fz (FV.int .i64 n5))])]) []) ∧ (∃ es5 : List (List FV), (∃ n6 : Int, (∃ n7 : Int, ((Fn Tryz.prog 13 [(TV.one (AV.fz (FV.sl 1 (es3 ++ more))))] [] (TV.tup [(false, [(AV.fz (FV.sl 9 es5))]), (false, [(AV.fz (FV.int .i64 n6))]), (false, [(AV.fz (FV.int .i64 n7))])]) []) ∧ (∃ b4 : Bool, ((Fn Tryz.prog 11 [] [] (TV.one (AV.fz (FV.bool b4))) []) ∧ (((b4 = true) → (∃ b5 : Bool, ((Fn Tryz.prog 14 [(TV.one (AV.fz (FV.sl 9 es4))), (TV.one (AV.fz (FV.sl 9 es5)))] [] (TV.one (AV.fz (FV.bool b5))) []) ∧ (((b5 = true) → ((((n4 == n6) = true) → (R (TV.one (AV.fz (FV.bool (n5 == n7)))) [])) ∧ (((n4 == n6) = false) → (R (TV.one (AV.fz (FV.bool false))) [])))) ∧ ((b5 = false) → (R (TV.one (AV.fz (FV.bool false))) [])))))) ∧ ((b4 = false) → (R (TV.one (AV.fz (FV.bool false))) [])))))))))))))))))))
theorem law03_TokenScans_fn (s : ByteArray) (more : List (List FV)) {r : TV} {h : List Ob} (H : law03_TokenScans_H (fun r' h' => r' = r ∧ h' = h) s more) : Fn Tryz.prog 3 [(TV.one (AV.fz (FV.str s))), (TV.one (AV.fz (FV.sl 1 more)))] [] r h :=
  Fn.by_tr (M := (modeOf [10] [])) (lv := law03_TokenScans_lv) (own := none) (F := Tryz.f3) (by kernel_rfl) (by kernel_rfl) (by first | decide | simp) (fun _ _ h => h) (by kernel_rfl) H
end Go.Proofs.YtejefchehdifhaaGreatDoor.Ev
end
section
set_option linter.unusedVariables false
namespace Go.Proofs.YtejefchehdifhaaGreatDoor.Ev
open Go
theorem tyV_i64s {x : TV} (h : TyV Tryz.prog 22 x) : ∃ l, x = fzS .i64 l ∧ All64 l := by
  rcases h with ⟨fs, rfl, h, ds, hne⟩ | ⟨f, rfl, h⟩
  · rw [Tryz.underlying22] at hne; cases hne
  · obtain ⟨l, h, hl⟩ := ty_i64s h
    cases h
    exact ⟨l, rfl, hl⟩
theorem law_TokenScans (xs : List TV) (h : TyAll Tryz.prog [9, 22] xs) (hb : bulkA xs ≤ 1048576) : Fn Tryz.prog 3 xs [] (.one (.fz (.bool true))) [] := by
  cases h with
  | cons h1 h =>
  cases h with
  | cons h2 h =>
  cases h
  obtain ⟨s, rfl, hs⟩ := tyV_str h1 Tryz.underlying9
  obtain ⟨T, hT, rfl⟩ : ∃ T, Bytes T ∧ s = bytesOf T := ⟨bs s, bs_bytes s, (of_bs s).symm⟩
  obtain ⟨more, rfl, hm⟩ := tyV_i64s h2
  simp only [bulkA, TV.bulk, FV.bulk, size_of] at hb
  have hlenT : T.length ≤ 1048576 := by omega
  refine law03_TokenScans_fn _ _ ?_
  unfold law03_TokenScans_H
  have hcl := chL_len hT
  have hm2 := hm.2
  refine ⟨_, charsO_ok T hT (by omega), by rw [ints_len, ints_len]; omega, fun _ => ⟨_, answers3_ok, rfl, rfl⟩, fun hl => ?_⟩
  rw [ints_app, ints_len] at hl ⊢
  have hlen : (chL T ++ more).length ≤ 20000 := by have := of_decide_eq_false hl; omega
  rw [List.nil_append, List.length_nil]
  obtain ⟨g1, g2⟩ := scanV_ok (t := chL T ++ more) (by omega)
  refine ⟨by omega, _, _, _, tScan_ok _ (by omega), _, _, _, rScan_ok _ (by omega), _, answers3_ok, fun _ => ⟨_, same3_ok _ (by omega) g1, fun _ => ⟨fun _ => ⟨by simp, rfl⟩, fun h => absurd h (by simp)⟩, fun h => absurd h (by decide)⟩, fun h => absurd h (by decide)⟩
end Go.Proofs.YtejefchehdifhaaGreatDoor.Ev
end
section
set_option linter.unusedVariables false
namespace Go.Proofs.YtejefchehdifhaaGreatDoor.tokenScans
open Go.ChangeShapes Go.WideShapes Go.ChangeAt Go.RowKit Go.Joins
open Go.Proofs.YtejefchehdifhaaGreatDoor.Ev (Ty TyAll TabAt Glob tabs closedB openedAll trodAll_below tabAt_ints_of tabAt_ifc_of tabAt_flat_of law_TokenScans returnsIn_upto witness_upto)
theorem own : ownKnob Tryz.prog.godebug = none := by kernel_rfl
theorem laidOut : laidOutB Tryz.prog = true := by kernel_rfl
set_option maxRecDepth 100000 in
theorem door_met (os : Os) (args : Array Value) : laidMetH Tryz.prog Rows.tokenScansUptoRow.laid ((World.laidAll Tryz.prog os Rows.tokenScansUptoRow.laid).forCall (fun _ _ => 0) ⟨#[], args, []⟩).memory :=
  Eq.mp (show laidMet Tryz.prog Rows.tokenScansUptoRow.laid ((World.laidAll Tryz.prog os Rows.tokenScansUptoRow.laid).forCall (fun _ _ => 0) ⟨#[], args, []⟩).memory = laidMetH Tryz.prog Rows.tokenScansUptoRow.laid ((World.laidAll Tryz.prog os Rows.tokenScansUptoRow.laid).forCall (fun _ _ => 0) ⟨#[], args, []⟩).memory by kernel_rfl) (laidMet_laidAll (os := os) args (by kernel_rfl) (by kernel_rfl))
set_option maxRecDepth 100000 in
theorem glob {W : World} (hL : laidMetH Tryz.prog Rows.tokenScansUptoRow.laid W) : Glob W := by
  have hM : laidMet Tryz.prog Rows.tokenScansUptoRow.laid W := Eq.mp (by kernel_rfl) hL
  intro x hx
  simp only [tabs, List.mem_cons, List.mem_nil_iff, or_false] at hx
  rcases hx with rfl | rfl | rfl | rfl | rfl | rfl | rfl
  · exact tabAt_flat_of (n := "marginalia/token.signs") (d := Rows.laid_marginalia_token_signs) (fs := [Go.Proofs.YtejefchehdifhaaGreatDoor.Ev.FV.str (ByteArray.mk #[35, 44, 64]), Go.Proofs.YtejefchehdifhaaGreatDoor.Ev.FV.int .i64 6, Go.Proofs.YtejefchehdifhaaGreatDoor.Ev.FV.str (ByteArray.mk #[117, 110, 115, 121, 110, 116, 97, 120, 45, 115, 112, 108, 105, 99, 105, 110, 103]), Go.Proofs.YtejefchehdifhaaGreatDoor.Ev.FV.str (ByteArray.mk #[35, 40]), Go.Proofs.YtejefchehdifhaaGreatDoor.Ev.FV.int .i64 3, Go.Proofs.YtejefchehdifhaaGreatDoor.Ev.FV.str (ByteArray.mk #[]), Go.Proofs.YtejefchehdifhaaGreatDoor.Ev.FV.str (ByteArray.mk #[35, 59]), Go.Proofs.YtejefchehdifhaaGreatDoor.Ev.FV.int .i64 5, Go.Proofs.YtejefchehdifhaaGreatDoor.Ev.FV.str (ByteArray.mk #[]), Go.Proofs.YtejefchehdifhaaGreatDoor.Ev.FV.str (ByteArray.mk #[35, 39]), Go.Proofs.YtejefchehdifhaaGreatDoor.Ev.FV.int .i64 6, Go.Proofs.YtejefchehdifhaaGreatDoor.Ev.FV.str (ByteArray.mk #[115, 121, 110, 116, 97, 120]), Go.Proofs.YtejefchehdifhaaGreatDoor.Ev.FV.str (ByteArray.mk #[35, 96]), Go.Proofs.YtejefchehdifhaaGreatDoor.Ev.FV.int .i64 6, Go.Proofs.YtejefchehdifhaaGreatDoor.Ev.FV.str (ByteArray.mk #[113, 117, 97, 115, 105, 115, 121, 110, 116, 97, 120]), Go.Proofs.YtejefchehdifhaaGreatDoor.Ev.FV.str (ByteArray.mk #[35, 44]), Go.Proofs.YtejefchehdifhaaGreatDoor.Ev.FV.int .i64 6, Go.Proofs.YtejefchehdifhaaGreatDoor.Ev.FV.str (ByteArray.mk #[117, 110, 115, 121, 110, 116, 97, 120]), Go.Proofs.YtejefchehdifhaaGreatDoor.Ev.FV.str (ByteArray.mk #[44, 64]), Go.Proofs.YtejefchehdifhaaGreatDoor.Ev.FV.int .i64 6, Go.Proofs.YtejefchehdifhaaGreatDoor.Ev.FV.str (ByteArray.mk #[117, 110, 113, 117, 111, 116, 101, 45, 115, 112, 108, 105, 99, 105, 110, 103]), Go.Proofs.YtejefchehdifhaaGreatDoor.Ev.FV.str (ByteArray.mk #[40]), Go.Proofs.YtejefchehdifhaaGreatDoor.Ev.FV.int .i64 1, Go.Proofs.YtejefchehdifhaaGreatDoor.Ev.FV.str (ByteArray.mk #[]), Go.Proofs.YtejefchehdifhaaGreatDoor.Ev.FV.str (ByteArray.mk #[41]), Go.Proofs.YtejefchehdifhaaGreatDoor.Ev.FV.int .i64 2, Go.Proofs.YtejefchehdifhaaGreatDoor.Ev.FV.str (ByteArray.mk #[]), Go.Proofs.YtejefchehdifhaaGreatDoor.Ev.FV.str (ByteArray.mk #[39]), Go.Proofs.YtejefchehdifhaaGreatDoor.Ev.FV.int .i64 6, Go.Proofs.YtejefchehdifhaaGreatDoor.Ev.FV.str (ByteArray.mk #[113, 117, 111, 116, 101]), Go.Proofs.YtejefchehdifhaaGreatDoor.Ev.FV.str (ByteArray.mk #[96]), Go.Proofs.YtejefchehdifhaaGreatDoor.Ev.FV.int .i64 6, Go.Proofs.YtejefchehdifhaaGreatDoor.Ev.FV.str (ByteArray.mk #[113, 117, 97, 115, 105, 113, 117, 111, 116, 101]), Go.Proofs.YtejefchehdifhaaGreatDoor.Ev.FV.str (ByteArray.mk #[44]), Go.Proofs.YtejefchehdifhaaGreatDoor.Ev.FV.int .i64 6, Go.Proofs.YtejefchehdifhaaGreatDoor.Ev.FV.str (ByteArray.mk #[117, 110, 113, 117, 111, 116, 101])]) (m := 8) hM (by kernel_rfl) (List.mem_of_getElem? (i := 7) (by kernel_rfl)) (g := 0) (t := 122) (by kernel_rfl) (by kernel_rfl) (by kernel_rfl)
  · exact tabAt_flat_of (n := "marginalia/utf.names") (d := Rows.laid_marginalia_utf_names) (fs := [Go.Proofs.YtejefchehdifhaaGreatDoor.Ev.FV.int .i64 32, Go.Proofs.YtejefchehdifhaaGreatDoor.Ev.FV.str (ByteArray.mk #[115, 112, 97, 99, 101]), Go.Proofs.YtejefchehdifhaaGreatDoor.Ev.FV.int .i64 10, Go.Proofs.YtejefchehdifhaaGreatDoor.Ev.FV.str (ByteArray.mk #[110, 101, 119, 108, 105, 110, 101]), Go.Proofs.YtejefchehdifhaaGreatDoor.Ev.FV.int .i64 9, Go.Proofs.YtejefchehdifhaaGreatDoor.Ev.FV.str (ByteArray.mk #[116, 97, 98]), Go.Proofs.YtejefchehdifhaaGreatDoor.Ev.FV.int .i64 13, Go.Proofs.YtejefchehdifhaaGreatDoor.Ev.FV.str (ByteArray.mk #[114, 101, 116, 117, 114, 110]), Go.Proofs.YtejefchehdifhaaGreatDoor.Ev.FV.int .i64 0, Go.Proofs.YtejefchehdifhaaGreatDoor.Ev.FV.str (ByteArray.mk #[110, 117, 108, 108]), Go.Proofs.YtejefchehdifhaaGreatDoor.Ev.FV.int .i64 127, Go.Proofs.YtejefchehdifhaaGreatDoor.Ev.FV.str (ByteArray.mk #[100, 101, 108, 101, 116, 101])]) (m := 8) hM (by kernel_rfl) (List.mem_of_getElem? (i := 6) (by kernel_rfl)) (g := 1) (t := 159) (by kernel_rfl) (by kernel_rfl) (by kernel_rfl)
  · exact tabAt_flat_of (n := "unicode/utf8.first") (d := Rows.laid_unicode_utf8_first) (fs := (List.range 256).map fun c => Go.Proofs.YtejefchehdifhaaGreatDoor.Ev.FV.int .u8 ((Go.Lib.firstT c : Nat) : Int)) (m := 8) hM (by kernel_rfl) (List.mem_of_getElem? (i := 8) (by kernel_rfl)) (g := 2) (t := 163) (by kernel_rfl) (by kernel_rfl) (by kernel_rfl)
  · exact tabAt_flat_of (n := "unicode/utf8.acceptRanges") (d := Rows.laid_unicode_utf8_acceptRanges) (fs := ((List.range 16).map fun i => [Go.Proofs.YtejefchehdifhaaGreatDoor.Ev.FV.int .u8 ((Go.Lib.accLo i : Nat) : Int), Go.Proofs.YtejefchehdifhaaGreatDoor.Ev.FV.int .u8 ((Go.Lib.accHi i : Nat) : Int)]).flatten) (m := 8) hM (by kernel_rfl) (List.mem_of_getElem? (i := 3) (by kernel_rfl)) (g := 3) (t := 167) (by kernel_rfl) (by kernel_rfl) (by kernel_rfl)
  · exact tabAt_ifc_of (n := "strconv.ErrSyntax") (d := Rows.laid_strconv_ErrSyntax) hM (by kernel_rfl) (List.mem_of_getElem? (i := 5) (by kernel_rfl)) (g := 4) (t := 97) (by kernel_rfl) (by kernel_rfl) Tryz.underlying97
  · exact tabAt_ifc_of (n := "strconv.ErrRange") (d := Rows.laid_strconv_ErrRange) hM (by kernel_rfl) (List.mem_of_getElem? (i := 4) (by kernel_rfl)) (g := 5) (t := 97) (by kernel_rfl) (by kernel_rfl) Tryz.underlying97
  · exact tabAt_flat_of (n := "internal/strconv.uint64pow10") (d := Rows.laid_internal_strconv_uint64pow10) (fs := (List.range 20).map fun i => Go.Proofs.YtejefchehdifhaaGreatDoor.Ev.FV.int .u64 ((10 ^ i : Nat) : Int)) (m := 8) hM (by kernel_rfl) (List.mem_of_getElem? (i := 2) (by kernel_rfl)) (g := 7) (t := 202) (by kernel_rfl) (by kernel_rfl) (by kernel_rfl)
set_option maxRecDepth 100000 in
theorem lifted (os : Os) (started : os.Started) (H : Type) (enc : TypeId × Value → H) :
    ReturnsInHanded {} Tryz.checked os 3 .any (fun w args => ((Rows.OpenSpec.upto Rows.tokenScansSpec).pre enc Tryz.prog Tryz.f3 Rows.tokenScansUptoRow.domain false w args ∧ laidMetH Tryz.prog Rows.tokenScansUptoRow.laid w) ∧ sizedMet enc Tryz.prog Tryz.f3 (Rows.OpenSpec.upto Rows.tokenScansSpec) false w args)
      (Rows.tokenScansSpec.post enc Tryz.prog Tryz.f3 false true false false) := by
  refine returnsIn_upto (C := Tryz.checked) (X := fun w _ => laidMetH Tryz.prog Rows.tokenScansUptoRow.laid w) (fun _ _ _ hh h => h.of_heap hh) own started (by kernel_rfl) Tryz.func3
    (witness_upto (enc := enc) (C := Tryz.checked) (os := os) (s := Rows.tokenScansSpec) (X := fun w _ => laidMetH Tryz.prog Rows.tokenScansUptoRow.laid w) (World.laidAll Tryz.prog os Rows.tokenScansUptoRow.laid) #[.string ByteArray.empty, .slice none 0 0] 8 (World.laidAll_os _ _ _) (World.shaped_of_ZipB (by kernel_rfl) (by kernel_rfl)) (by kernel_rfl) (by kernel_rfl) (by kernel_rfl) (door_met os _)) ?_
  intro W base args ds gs before hval0 hW hcnd hbk hsz0 hL
  have hsz : (DataW.weightsEach Tryz.prog (Tryz.f3.params.toList ++ Rows.tokenScansSpec.plain.varTypes Tryz.prog) (ds ++ gs)).all (· ≤ reachBytes) = true := hsz0
  have hval : ∀ (j : Nat) t v, Tryz.f3.params[j]? = some t → args[j]? = some v → Value.okWide Tryz.prog W .any base t v := hval0
  have hW' := hW
  obtain ⟨p, q, hA0, hV, rfl, hfz, hnd⟩ := hW
  have hA : DataW.TrodAll enc Tryz.prog W 0 (fun _ => true) true Tryz.f3.params.toList args.toList ds p := hA0
  rw [Tryz.params3] at hA hval hsz
  obtain ⟨rfl, rfl⟩ := trodVars_none hV
  have hA2 := hA
  obtain ⟨v0, vs0, d0, ds0, p0, q0, hargs, rfl, rfl, h0_, r0⟩ := trodAll_cons hA2
  obtain ⟨v1, vs1, d1, ds1, p1, q1, rfl, rfl, rfl, h1_, r1⟩ := trodAll_cons r0
  obtain ⟨rfl, rfl, rfl⟩ := trodAll_nil r1
  obtain ⟨xs, h1, h2, h3, hb⟩ := openedAll (S := [9, 22, 3]) (ts := [9, 22]) (by kernel_rfl) (by decide) (fun j t v ht hv => hval j t v (by simpa using ht) (by simpa using hv)) hA (fun m hm => by simpa using List.all_eq_true.1 hsz m hm)
  refine ((law_TokenScans xs h1 (Nat.le_trans hb hbk)).door (glob hL) (by simpa using h2) (fun i x hx => by obtain ⟨v, hv, hr⟩ := h3 i x hx; exact ⟨v, by simpa using hv, hr⟩)).mono fun e W' ⟨he, bel⟩ => ?_
  subst he
  exact ⟨_, rfl, _, _, _, [], _, [], hW', trodAll_mk1 (shut_bool Tryz.underlying4 _), trodAll_below laidOut bel (ts := [9, 22]) (by decide +kernel) hA, rfl, bel.frame _, fun h => by cases h⟩
theorem over : Rows.tokenScansUptoRow.holds Tryz.pinned (Rows.OpenSpec.upto Rows.tokenScansSpec) :=
  OpenClaim.holds_of_cond 3 Tryz.f3 rfl rfl rfl rfl rfl rfl rfl ⟨rfl, rfl, rfl, rfl, rfl⟩ rfl rfl rfl rfl rfl (by kernel_rfl) Tryz.func3 (by kernel_rfl)
    (of_decide_eq_true (by kernel_rfl)) (by unfold Func.isWrapper; first | (rw [if_pos (by decide +kernel)]; kernel_rfl) | (rw [if_neg (by decide +kernel)]; exact ⟨rfl, rfl⟩))
    (fun os started H enc _ _ => lifted os started H enc)
theorem proved : Rows.TokenScansUptoCardSaid :=
  Claim7.holds_tied_plain_at .later [] [.data, .data, .data, .data, .sentinel, .sentinel, .data, .data, .pinned] true (true, "b7fd62ea3e1cb0ae30951ff2f781820105a8fe0c0743b841a15bd4ce99226292") true
    over (fun _ h => by cases h) (by kernel_rfl) (fun _ h => by cases h) tokenScansUpto_row_tie rfl ⟨rfl, rfl⟩ (by kernel_rfl) rfl
    (fun f fn hf hfn => by
      obtain rfl : f = 3 := Option.some.inj ((show Tryz.prog.funcNamed "marginalia/marginalialaw03.TokenScans" = some 3 by kernel_rfl).symm.trans hf) |>.symm
      obtain rfl : fn = Tryz.f3 := (Option.some.inj (Tryz.func3.symm.trans hfn)).symm
      exact ⟨by kernel_rfl, fun j t ht => by
        rw [Tryz.params3] at ht
        have hm : t ∈ [9, 22] := by simpa using Array.mem_of_getElem? ht
        have hall : ([9, 22].all fun u => !Tryz.prog.wantsStandIn u) = true := by kernel_rfl
        exact (show Tryz.prog.wantsStandIn t = false by simpa using List.all_eq_true.1 hall t hm)⟩)
    (by kernel_rfl)
end Go.Proofs.YtejefchehdifhaaGreatDoor.tokenScans
namespace Go.Proofs.YtejefchehdifhaaGreatDoor
theorem tokenScansUpto_holds : Rows.TokenScansUptoCardSaid := tokenScans.proved
end Go.Proofs.YtejefchehdifhaaGreatDoor
end
