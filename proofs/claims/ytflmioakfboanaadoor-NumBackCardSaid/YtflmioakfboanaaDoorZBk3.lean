/-
  Part of a claim: definitions and lemmas that its theorem leans on, packed by wip/tools/pack.py.
-/
import Derived.Test.YtflmioakfboanaaDoorZBk2
import Derived.Shelf.Strconv.Itoa3
import Derived.Shelf.Strings.Repeat
import Derived.Shelf.Strconv.AtoiAll
import Derived.Shelf.Strings.Prefix
import Derived.Shelf.Strings.SlTrimAscii
import Derived.Shelf.Strings.Trim
import Derived.Shelf.LaysM
import Derived.Lib.ItoaNum
import Derived.Lib.AppendIntMem
import Derived.Lib.AtoiAllCases
import Derived.Lib.SlTrimSet
import Derived.Test.YtflmioakfboanaaDoorRows
import Derived.Test.YtflmioakfboanaaDoorTie
import Derived.Test.YtflmioakfboanaaDoorCards
import Derived.ProofKit
import Derived.ShutString
import Derived.LaidMore
import Derived.LaidLaws
import Derived.Lay
import Derived.Stop.Joined
import Derived.SevenTiedAt
set_option linter.unusedVariables false
set_option linter.unusedSimpArgs false
section
set_option linter.unusedVariables false
set_option maxRecDepth 100000
namespace Go.Proofs.YtflmioakfboanaaDoor.Ev
open Go
def num_Text_lv : List Nat → Keep := lvOf [([0, 1, 0, 1, 1, 1, 1, 1], ⟨26, 0, [], true⟩)]
def num_Text_S0 (x0 : Bool) (x1 : List (List FV)) (i : Int) (es : List (List FV)) : St := (St.mk [TV.und, (TV.one (AV.ptr 0 0 0 0)), TV.und, (TV.one (AV.ptr 1 0 0 0)), (TV.one (AV.fz (FV.int .i64 i))), TV.und, TV.und, TV.und, TV.und, TV.und, TV.und, TV.und, TV.und, TV.und, TV.und, TV.und, TV.und, TV.und, TV.und, TV.und, TV.und, TV.und, TV.und, TV.und, TV.und, TV.und, TV.und, TV.und, TV.und, TV.und, TV.und, TV.und, TV.und, TV.und, TV.und, TV.und, TV.und, TV.und, TV.und, TV.und, TV.und, TV.und, TV.und, TV.und, TV.und] [(Ob.g 24 [(AV.fz (FV.bool x0)), (AV.fz (FV.sl 1 x1))]), (Ob.g 74 [(AV.ptr 1 0 0 0), (AV.ofl 1 2)]), (Ob.f 5 1 es)])
def num_Text_L0 (R : TV → List Ob → Prop) (x0 : Bool) (x1 : List (List FV)) (i : Int) (es : List (List FV)) : Prop := LoopAt Tryd.prog (modeOf [] [(58, [(Sig.mk 1 [(false, [(AT.a (AV.fz (FV.ifc false)))])] [(OT.g 74 [(AT.a (AV.ptr 0 0 0 0)), (AT.a (AV.ofl 1 1))]), (OT.f 5 1)] 0), (Sig.mk 2 [(false, [(AT.a (AV.fz (FV.ifc false)))])] [(OT.g 74 [(AT.a (AV.ptr 0 0 0 0)), (AT.a (AV.ofl 1 2))]), OT.no, (OT.f 5 1)] 0)]), (60, [(Sig.mk 1 [(false, [(AT.k (CK.int .i64))]), (false, [(AT.a (AV.fz (FV.ifc false)))])] [(OT.g 74 [(AT.a (AV.ptr 0 0 0 0)), (AT.a (AV.ofl 1 1))]), (OT.f 5 1)] 0), (Sig.mk 2 [(false, [(AT.k (CK.int .i64))]), (false, [(AT.a (AV.fz (FV.ifc false)))])] [(OT.g 74 [(AT.a (AV.ptr 0 0 0 0)), (AT.a (AV.ofl 1 2))]), OT.no, (OT.f 5 1)] 0)]), (62, [(Sig.mk 2 [(false, [(AT.k CK.str)])] [(OT.g 74 [(AT.a (AV.ptr 0 0 0 0)), (AT.a (AV.ofl 1 1))]), (OT.z 1)] 0)])]) num_Text_lv Tryd.f33 none R [1, 1, 1, 1, 1, 0, 1, 0] (num_Text_S0 x0 x1 i es)
def num_Text_S1 (x0 : Bool) (x1 : List (List FV)) : St := (St.mk [TV.und, (TV.one (AV.ptr 0 0 0 0)), TV.und, (TV.one (AV.ptr 1 0 0 0)), (TV.one (AV.fz (FV.int .i64 (IntKind.wrap .i64 ((((List.length x1) : Nat) : Int) - 1))))), TV.und, TV.und, TV.und, TV.und, TV.und, TV.und, TV.und, TV.und, TV.und, TV.und, TV.und, TV.und, TV.und, TV.und, TV.und, TV.und, TV.und, TV.und, TV.und, TV.und, TV.und, TV.und, TV.und, TV.und, TV.und, TV.und, TV.und, TV.und, TV.und, TV.und, TV.und, TV.und, TV.und, TV.und, TV.und, TV.und, TV.und, TV.und, TV.und, TV.und] [(Ob.g 24 [(AV.fz (FV.bool x0)), (AV.fz (FV.sl 1 x1))]), (Ob.g 74 [(AV.fz FV.nilp), (AV.nsl 1)])])
def num_Text_L1 (R : TV → List Ob → Prop) (x0 : Bool) (x1 : List (List FV)) : Prop := LoopAt Tryd.prog (modeOf [] [(58, [(Sig.mk 1 [(false, [(AT.a (AV.fz (FV.ifc false)))])] [(OT.g 74 [(AT.a (AV.ptr 0 0 0 0)), (AT.a (AV.ofl 1 1))]), (OT.f 5 1)] 0), (Sig.mk 2 [(false, [(AT.a (AV.fz (FV.ifc false)))])] [(OT.g 74 [(AT.a (AV.ptr 0 0 0 0)), (AT.a (AV.ofl 1 2))]), OT.no, (OT.f 5 1)] 0)]), (60, [(Sig.mk 1 [(false, [(AT.k (CK.int .i64))]), (false, [(AT.a (AV.fz (FV.ifc false)))])] [(OT.g 74 [(AT.a (AV.ptr 0 0 0 0)), (AT.a (AV.ofl 1 1))]), (OT.f 5 1)] 0), (Sig.mk 2 [(false, [(AT.k (CK.int .i64))]), (false, [(AT.a (AV.fz (FV.ifc false)))])] [(OT.g 74 [(AT.a (AV.ptr 0 0 0 0)), (AT.a (AV.ofl 1 2))]), OT.no, (OT.f 5 1)] 0)]), (62, [(Sig.mk 2 [(false, [(AT.k CK.str)])] [(OT.g 74 [(AT.a (AV.ptr 0 0 0 0)), (AT.a (AV.ofl 1 1))]), (OT.z 1)] 0)])]) num_Text_lv Tryd.f33 none R [1, 1, 1, 1, 1, 0, 1, 0] (num_Text_S1 x0 x1)
def num_Text_R0 (R : TV → List Ob → Prop) (x0 : Bool) (x1 : List (List FV)) (i : Int) (es : List (List FV)) : Prop :=
  ((((decide ((0 : Int) ≤ i)) = true) → (((0 : Int) ≤ i) ∧ (∃ n12 : Int, (((x1)[(Int.toNat i)]? = (some [(FV.int .u32 n12)])) ∧ (∃ s8 : ByteArray, ((Fn Tryd.prog 59 [(TV.one (AV.fz (FV.int .i64 (IntKind.wrap .i64 n12))))] [] (TV.one (AV.fz (FV.str s8))) []) ∧ ((((decide (i < (IntKind.wrap .i64 ((((List.length x1) : Nat) : Int) - 1)))) = true) → (∃ s9 : ByteArray, ((Fn Tryd.prog 61 [(TV.one (AV.fz (FV.str (ByteArray.mk #[48])))), (TV.one (AV.fz (FV.int .i64 (IntKind.wrap .i64 (9 - (((ByteArray.size s8) : Nat) : Int))))))] [] (TV.one (AV.fz (FV.str s9))) []) ∧ (∃ es12 : List (List FV), (∃ n13 : Int, ((Fn Tryd.prog 60 [(TV.one (AV.ptr 0 0 0 0)), (TV.one (AV.fz (FV.str s9)))] [(Ob.g 74 [(AV.ptr 0 0 0 0), (AV.ofl 1 1)]), (Ob.f 5 1 es)] (TV.tup [(false, [(AV.fz (FV.int .i64 n13))]), (false, [(AV.fz (FV.ifc false))])]) [(Ob.g 74 [(AV.ptr 0 0 0 0), (AV.ofl 1 2)]), Ob.no, (Ob.f 5 1 es12)]) ∧ (∃ es13 : List (List FV), (∃ n14 : Int, ((Fn Tryd.prog 60 [(TV.one (AV.ptr 0 0 0 0)), (TV.one (AV.fz (FV.str s8)))] [(Ob.g 74 [(AV.ptr 0 0 0 0), (AV.ofl 1 1)]), (Ob.f 5 1 es12)] (TV.tup [(false, [(AV.fz (FV.int .i64 n14))]), (false, [(AV.fz (FV.ifc false))])]) [(Ob.g 74 [(AV.ptr 0 0 0 0), (AV.ofl 1 2)]), Ob.no, (Ob.f 5 1 es13)]) ∧ (num_Text_L0 R x0 x1 (IntKind.wrap .i64 (i - 1)) es13)))))))))) ∧ (((decide (i < (IntKind.wrap .i64 ((((List.length x1) : Nat) : Int) - 1)))) = false) → (∃ es14 : List (List FV), (∃ n15 : Int, ((Fn Tryd.prog 60 [(TV.one (AV.ptr 0 0 0 0)), (TV.one (AV.fz (FV.str s8)))] [(Ob.g 74 [(AV.ptr 0 0 0 0), (AV.ofl 1 1)]), (Ob.f 5 1 es)] (TV.tup [(false, [(AV.fz (FV.int .i64 n15))]), (false, [(AV.fz (FV.ifc false))])]) [(Ob.g 74 [(AV.ptr 0 0 0 0), (AV.ofl 1 2)]), Ob.no, (Ob.f 5 1 es14)]) ∧ (num_Text_L0 R x0 x1 (IntKind.wrap .i64 (i - 1)) es14)))))))))))) ∧ (((decide ((0 : Int) ≤ i)) = false) → (∃ es15 : List (List FV), (∃ s10 : ByteArray, ((Fn Tryd.prog 62 [(TV.one (AV.ptr 0 0 0 0))] [(Ob.g 74 [(AV.ptr 0 0 0 0), (AV.ofl 1 1)]), (Ob.f 5 1 es)] (TV.one (AV.fz (FV.str s10))) [(Ob.g 74 [(AV.ptr 0 0 0 0), (AV.ofl 1 1)]), (Ob.z 1 es15)]) ∧ (R (TV.one (AV.fz (FV.str s10))) []))))))
theorem num_Text_l0 {R : TV → List Ob → Prop} {x0 : Bool} {x1 : List (List FV)} {i : Int} {es : List (List FV)} (h : num_Text_R0 R x0 x1 i es) : num_Text_L0 R x0 x1 i es :=
  LoopAt.by_tr (by kernel_rfl) (by kernel_rfl) h
def num_Text_R1 (R : TV → List Ob → Prop) (x0 : Bool) (x1 : List (List FV)) : Prop :=
  ((((decide ((0 : Int) ≤ (IntKind.wrap .i64 ((((List.length x1) : Nat) : Int) - 1)))) = true) → (((0 : Int) ≤ (IntKind.wrap .i64 ((((List.length x1) : Nat) : Int) - 1))) ∧ (∃ n12 : Int, (((x1)[(Int.toNat (IntKind.wrap .i64 ((((List.length x1) : Nat) : Int) - 1)))]? = (some [(FV.int .u32 n12)])) ∧ (∃ s8 : ByteArray, ((Fn Tryd.prog 59 [(TV.one (AV.fz (FV.int .i64 (IntKind.wrap .i64 n12))))] [] (TV.one (AV.fz (FV.str s8))) []) ∧ ((((decide ((IntKind.wrap .i64 ((((List.length x1) : Nat) : Int) - 1)) < (IntKind.wrap .i64 ((((List.length x1) : Nat) : Int) - 1)))) = true) → (∃ s9 : ByteArray, ((Fn Tryd.prog 61 [(TV.one (AV.fz (FV.str (ByteArray.mk #[48])))), (TV.one (AV.fz (FV.int .i64 (IntKind.wrap .i64 (9 - (((ByteArray.size s8) : Nat) : Int))))))] [] (TV.one (AV.fz (FV.str s9))) []) ∧ (∃ es12 : List (List FV), (∃ n13 : Int, ((Fn Tryd.prog 60 [(TV.one (AV.ptr 0 0 0 0)), (TV.one (AV.fz (FV.str s9)))] [(Ob.g 74 [(AV.fz FV.nilp), (AV.nsl 1)])] (TV.tup [(false, [(AV.fz (FV.int .i64 n13))]), (false, [(AV.fz (FV.ifc false))])]) [(Ob.g 74 [(AV.ptr 0 0 0 0), (AV.ofl 1 1)]), (Ob.f 5 1 es12)]) ∧ (∃ es13 : List (List FV), (∃ n14 : Int, ((Fn Tryd.prog 60 [(TV.one (AV.ptr 0 0 0 0)), (TV.one (AV.fz (FV.str s8)))] [(Ob.g 74 [(AV.ptr 0 0 0 0), (AV.ofl 1 1)]), (Ob.f 5 1 es12)] (TV.tup [(false, [(AV.fz (FV.int .i64 n14))]), (false, [(AV.fz (FV.ifc false))])]) [(Ob.g 74 [(AV.ptr 0 0 0 0), (AV.ofl 1 2)]), Ob.no, (Ob.f 5 1 es13)]) ∧ (num_Text_L0 R x0 x1 (IntKind.wrap .i64 ((IntKind.wrap .i64 ((((List.length x1) : Nat) : Int) - 1)) - 1)) es13)))))))))) ∧ (((decide ((IntKind.wrap .i64 ((((List.length x1) : Nat) : Int) - 1)) < (IntKind.wrap .i64 ((((List.length x1) : Nat) : Int) - 1)))) = false) → (∃ es14 : List (List FV), (∃ n15 : Int, ((Fn Tryd.prog 60 [(TV.one (AV.ptr 0 0 0 0)), (TV.one (AV.fz (FV.str s8)))] [(Ob.g 74 [(AV.fz FV.nilp), (AV.nsl 1)])] (TV.tup [(false, [(AV.fz (FV.int .i64 n15))]), (false, [(AV.fz (FV.ifc false))])]) [(Ob.g 74 [(AV.ptr 0 0 0 0), (AV.ofl 1 1)]), (Ob.f 5 1 es14)]) ∧ (num_Text_L0 R x0 x1 (IntKind.wrap .i64 ((IntKind.wrap .i64 ((((List.length x1) : Nat) : Int) - 1)) - 1)) es14)))))))))))) ∧ (((decide ((0 : Int) ≤ (IntKind.wrap .i64 ((((List.length x1) : Nat) : Int) - 1)))) = false) → False))
theorem num_Text_l1 {R : TV → List Ob → Prop} {x0 : Bool} {x1 : List (List FV)} (h : num_Text_R1 R x0 x1) : num_Text_L1 R x0 x1 :=
  LoopAt.by_tr (by kernel_rfl) (by kernel_rfl) h
def num_Text_H (R : TV → List Ob → Prop) (x0 : Bool) (x1 : List (List FV)) : Prop :=
  (∃ b1 : Bool, ((Fn Tryd.prog 32 [(TV.agg [(AV.fz (FV.bool x0)), (AV.fz (FV.sl 1 x1))])] [] (TV.one (AV.fz (FV.bool b1))) []) ∧ ((((Bool.not b1) = true) → (R (TV.one (AV.fz (FV.str (ByteArray.mk #[])))) [])) ∧ (((Bool.not b1) = false) → (((((((List.length x1) : Nat) : Int) == 0) = true) → (R (TV.one (AV.fz (FV.str (ByteArray.mk #[48])))) [])) ∧ ((((((List.length x1) : Nat) : Int) == 0) = false) → (((x0 = true) → (∃ es12 : List (List FV), ((Fn Tryd.prog 58 [(TV.one (AV.ptr 0 0 0 0)), (TV.one (AV.fz (FV.int .u8 45)))] [(Ob.g 74 [(AV.fz FV.nilp), (AV.nsl 1)])] (TV.one (AV.fz (FV.ifc false))) [(Ob.g 74 [(AV.ptr 0 0 0 0), (AV.ofl 1 1)]), (Ob.f 5 1 es12)]) ∧ (num_Text_L0 R x0 x1 (IntKind.wrap .i64 ((((List.length x1) : Nat) : Int) - 1)) es12)))) ∧ ((x0 = false) → (num_Text_L1 R x0 x1)))))))))
theorem num_Text_fn (x0 : Bool) (x1 : List (List FV)) {r : TV} {h : List Ob} (H : num_Text_H (fun r' h' => r' = r ∧ h' = h) x0 x1) : Fn Tryd.prog 33 [(TV.agg [(AV.fz (FV.bool x0)), (AV.fz (FV.sl 1 x1))])] [] r h :=
  Fn.by_tr (M := (modeOf [] [(58, [(Sig.mk 1 [(false, [(AT.a (AV.fz (FV.ifc false)))])] [(OT.g 74 [(AT.a (AV.ptr 0 0 0 0)), (AT.a (AV.ofl 1 1))]), (OT.f 5 1)] 0), (Sig.mk 2 [(false, [(AT.a (AV.fz (FV.ifc false)))])] [(OT.g 74 [(AT.a (AV.ptr 0 0 0 0)), (AT.a (AV.ofl 1 2))]), OT.no, (OT.f 5 1)] 0)]), (60, [(Sig.mk 1 [(false, [(AT.k (CK.int .i64))]), (false, [(AT.a (AV.fz (FV.ifc false)))])] [(OT.g 74 [(AT.a (AV.ptr 0 0 0 0)), (AT.a (AV.ofl 1 1))]), (OT.f 5 1)] 0), (Sig.mk 2 [(false, [(AT.k (CK.int .i64))]), (false, [(AT.a (AV.fz (FV.ifc false)))])] [(OT.g 74 [(AT.a (AV.ptr 0 0 0 0)), (AT.a (AV.ofl 1 2))]), OT.no, (OT.f 5 1)] 0)]), (62, [(Sig.mk 2 [(false, [(AT.k CK.str)])] [(OT.g 74 [(AT.a (AV.ptr 0 0 0 0)), (AT.a (AV.ofl 1 1))]), (OT.z 1)] 0)])])) (lv := num_Text_lv) (own := none) (F := Tryd.f33) (by kernel_rfl) (by kernel_rfl) (by first | decide | simp) (by kernel_rfl) H
end Go.Proofs.YtflmioakfboanaaDoor.Ev
end
section
set_option linter.unusedVariables false
namespace Go.Proofs.YtflmioakfboanaaDoor.Ev
open Go Go.RowKit
theorem RepH.below {P : Program} {ext : Nat → Prop} {w0 : World} {own0 : Own0} {locs : Nat → Option Loc} {w w' : World} (H : RepH P ext w0 own0 locs [] w) (hb : Below w.heap.size w w') : RepH P ext w0 own0 locs [] w' := by
  have hown : ∀ b, ¬ ownB locs [] b := by rintro b ⟨o, l, d, ob, h1, _⟩; simp at h1
  refine ⟨H.len, fun o ob ho => by simp at ho, fun o o' l l' ob ob' d d' _ ho => by simp at ho, fun b _ hb => hown b hb, fun b hb' => Nat.lt_of_lt_of_le (H.extlt b hb') hb.size, fun b _ hb => absurd hb (hown b), ?_, H.base, H.pins⟩
  exact ⟨Nat.le_trans H.since.size hb.size, fun b hlt hn => (hb.block b (Nat.lt_of_lt_of_le hlt H.since.size)).trans (H.since.block b hlt hn), hb.os.trans H.since.os, hb.tape.trans H.since.tape, hb.output.trans H.since.output⟩
def bareV : FV → Option Value
  | .int k n => some (.int k n)
  | .bool b => some (.bool b)
  | .str s => some (.string s)
  | _ => none
theorem bareV_ok {w : World} {B : Nat → Prop} {x : FV} {v u : Value} (h : bareV x = some v) (hr : RF w B x u) : u = v := by
  cases x <;> cases h <;> cases hr <;> rfl
theorem bareV_rep {w : World} {B : Nat → Prop} {x : FV} {v : Value} (h : bareV x = some v) : RF w B x v := by
  cases x <;> cases h <;> constructor
theorem args_bare {w : World} {B : Nat → Prop} {locs : Nat → Option Loc} : ∀ (xs : List FV) (vs vals : List Value), xs.mapM bareV = some vs → vals.length = xs.length →
    (∀ (i : Nat) (x : TV), (xs.map fun x => TV.one (.fz x))[i]? = some x → ∃ v, vals[i]? = some v ∧ RT w B locs x v) → vals = vs
  | [], vs, vals, h, hl, _ => by
    simp at h hl
    rw [hl, ← h]
  | x :: xs, vs, [], h, hl, _ => by simp at hl
  | x :: xs, vs, v :: vals, h, hl, hr => by
    simp only [List.mapM_cons, Option.bind_eq_bind, Option.bind_eq_some_iff, Option.pure_def, Option.some.injEq] at h
    obtain ⟨u, hu, us, hus, rfl⟩ := h
    obtain ⟨v', hv', hr'⟩ := hr 0 _ rfl
    cases hv'
    have h1 := bareV_ok hu hr'
    have h2 := args_bare xs us vals hus (by simpa using hl) (fun i y hy => hr (i + 1) y (by simpa using hy))
    rw [h1, h2]
theorem Fn.of_below {P : Program} {f : FuncId} (xs : List FV) {vs : List Value} {r : FV} {v : Value} (hx : xs.mapM bareV = some vs) (hr : bareV r = some v)
    (hc : ∀ w, Glob w → Calls P f vs.toArray w fun e w' => e = .returned v ∧ Below w.heap.size w w') : Fn P f (xs.map fun x => .one (.fz x)) [] (.one (.fz r)) [] := by
  intro ext w locs vals H hsz hrep
  have e : vals = vs.toArray := by
    have := args_bare xs vs vals.toList hx (by simpa using hsz) (fun i x h => by obtain ⟨v, h1, h2⟩ := hrep i x h; exact ⟨v, by simpa using h1, h2⟩)
    rw [← this]
  subst e
  refine (hc w H.glob).mono ?_
  rintro e w' ⟨rfl, hb⟩
  exact ⟨v, locs, rfl, H.below hb, bareV_rep hr⟩
end Go.Proofs.YtflmioakfboanaaDoor.Ev
end
section
namespace Go.Proofs
open Go.Shelf
def Tryd.lays161_ren : Go.Shelf.Ren := ⟨fun | 161 => 65 | 231 => 82 | 227 => 84 | 233 => 85 | 235 => 87 | 228 => 103 | 197 => 104 | 151 => 105 | 260 => 116 | 152 => 117 | 137 => 126 | 119 => 127 | 224 => 128 | 225 => 129 | 217 => 132 | 266 => 133 | n => n, fun | 9 => 9 | 4 => 4 | 3 => 3 | 5 => 5 | 117 => 96 | 116 => 95 | 0 => 0 | 124 => 99 | 105 => 115 | 21 => 21 | 119 => 141 | 46 => 86 | 139 => 144 | 138 => 143 | n => n, fun | 3 => 4 | 4 => 5 | n => n⟩
theorem Tryd.lays161 : Go.Proofs.Lays.n161 Tryd.prog Tryd.lays161_ren := {
  mixed := by kernel_rfl
  f119 := Tryd.func127.trans (congrArg some (by kernel_rfl))
  f137 := Tryd.func126.trans (congrArg some (by kernel_rfl))
  f151 := Tryd.func105.trans (congrArg some (by kernel_rfl))
  f152 := Tryd.func117.trans (congrArg some (by kernel_rfl))
  f161 := Tryd.func65.trans (congrArg some (by kernel_rfl))
  f197 := Tryd.func104.trans (congrArg some (by kernel_rfl))
  f217 := Tryd.func132.trans (congrArg some (by kernel_rfl))
  f224 := Tryd.func128.trans (congrArg some (by kernel_rfl))
  f225 := Tryd.func129.trans (congrArg some (by kernel_rfl))
  f227 := Tryd.func84.trans (congrArg some (by kernel_rfl))
  f228 := Tryd.func103.trans (congrArg some (by kernel_rfl))
  f231 := Tryd.func82.trans (congrArg some (by kernel_rfl))
  f233 := Tryd.func85.trans (congrArg some (by kernel_rfl))
  f235 := Tryd.func87.trans (congrArg some (by kernel_rfl))
  f260 := Tryd.func116.trans (congrArg some (by kernel_rfl))
  f266 := Tryd.func133.trans (congrArg some (by kernel_rfl))
  t0 := Tryd.underlying0
  a0 := Tryd.isAgg0
  z0 := Tryd.sizeOf0
  v0 := Tryd.zeroValue0
  t3 := Tryd.underlying3
  a3 := Tryd.isAgg3
  z3 := Tryd.sizeOf3
  v3 := Tryd.zeroValue3
  t4 := Tryd.underlying4
  a4 := Tryd.isAgg4
  z4 := Tryd.sizeOf4
  v4 := Tryd.zeroValue4
  t5 := Tryd.underlying5
  a5 := Tryd.isAgg5
  z5 := Tryd.sizeOf5
  v5 := Tryd.zeroValue5
  t9 := Tryd.underlying9
  a9 := Tryd.isAgg9
  z9 := Tryd.sizeOf9
  v9 := Tryd.zeroValue9
  t21 := Tryd.underlying21
  a21 := Tryd.isAgg21
  z21 := Tryd.sizeOf21
  v21 := Tryd.zeroValue21
  t46 := Tryd.underlying86
  a46 := Tryd.isAgg86
  z46 := Tryd.sizeOf86
  v46 := Tryd.zeroValue86
  t105 := Tryd.underlying115
  a105 := Tryd.isAgg115
  z105 := Tryd.sizeOf115
  v105 := Tryd.zeroValue115
  t116 := Tryd.underlying95
  a116 := Tryd.isAgg95
  z116 := Tryd.sizeOf95
  t117 := Tryd.underlying96
  a117 := Tryd.isAgg96
  z117 := Tryd.sizeOf96
  v117 := Tryd.zeroValue96
  t119 := Tryd.underlying141
  a119 := Tryd.isAgg141
  z119 := Tryd.sizeOf141
  t124 := Tryd.underlying99
  a124 := Tryd.isAgg99
  z124 := Tryd.sizeOf99
  v124 := Tryd.zeroValue99
  t138 := Tryd.underlying143
  a138 := Tryd.isAgg143
  z138 := Tryd.sizeOf143
  v138 := Tryd.zeroValue143
  t139 := Tryd.underlying144
  a139 := Tryd.isAgg144
  z139 := Tryd.sizeOf144
  v139 := Tryd.zeroValue144
  g3 := by kernel_rfl
  g4 := by kernel_rfl }
open Go.RowKit in
theorem Tryd.strings_TrimLeft_one (s : ByteArray) (c : UInt8) (hc : c.toNat < 128) (w : World) :
    Calls Tryd.prog 65 #[.string s, .string ⟨#[c]⟩] w fun e w' => e = .returned (.string ⟨(Lib.trimLeftB s.data.toList c).toArray⟩) ∧ w' = w := Any.strings_TrimLeft_one Tryd.lays161 s c hc w
def Tryd.lays160_ren : Go.Shelf.Ren := ⟨fun | 160 => 64 | 232 => 83 | 231 => 82 | 227 => 84 | 234 => 86 | 233 => 85 | 236 => 88 | 235 => 87 | 228 => 103 | 271 => 106 | 151 => 105 | 197 => 104 | 120 => 118 | 152 => 117 | 260 => 116 | 137 => 126 | 119 => 127 | 224 => 128 | 225 => 129 | 217 => 132 | 266 => 133 | n => n, fun | 9 => 9 | 4 => 4 | 3 => 3 | 5 => 5 | 117 => 96 | 116 => 95 | 0 => 0 | 124 => 99 | 21 => 21 | 105 => 115 | 46 => 86 | 119 => 141 | 139 => 144 | 138 => 143 | n => n, fun | 3 => 4 | 4 => 5 | n => n⟩
theorem Tryd.lays160 : Go.Proofs.Lays.n160 Tryd.prog Tryd.lays160_ren := {
  mixed := by kernel_rfl
  f119 := Tryd.func127.trans (congrArg some (by kernel_rfl))
  f120 := Tryd.func118.trans (congrArg some (by kernel_rfl))
  f137 := Tryd.func126.trans (congrArg some (by kernel_rfl))
  f151 := Tryd.func105.trans (congrArg some (by kernel_rfl))
  f152 := Tryd.func117.trans (congrArg some (by kernel_rfl))
  f160 := Tryd.func64.trans (congrArg some (by kernel_rfl))
  f197 := Tryd.func104.trans (congrArg some (by kernel_rfl))
  f217 := Tryd.func132.trans (congrArg some (by kernel_rfl))
  f224 := Tryd.func128.trans (congrArg some (by kernel_rfl))
  f225 := Tryd.func129.trans (congrArg some (by kernel_rfl))
  f227 := Tryd.func84.trans (congrArg some (by kernel_rfl))
  f228 := Tryd.func103.trans (congrArg some (by kernel_rfl))
  f231 := Tryd.func82.trans (congrArg some (by kernel_rfl))
  f232 := Tryd.func83.trans (congrArg some (by kernel_rfl))
  f233 := Tryd.func85.trans (congrArg some (by kernel_rfl))
  f234 := Tryd.func86.trans (congrArg some (by kernel_rfl))
  f235 := Tryd.func87.trans (congrArg some (by kernel_rfl))
  f236 := Tryd.func88.trans (congrArg some (by kernel_rfl))
  f260 := Tryd.func116.trans (congrArg some (by kernel_rfl))
  f266 := Tryd.func133.trans (congrArg some (by kernel_rfl))
  f271 := Tryd.func106.trans (congrArg some (by kernel_rfl))
  t0 := Tryd.underlying0
  a0 := Tryd.isAgg0
  z0 := Tryd.sizeOf0
  v0 := Tryd.zeroValue0
  t3 := Tryd.underlying3
  a3 := Tryd.isAgg3
  z3 := Tryd.sizeOf3
  v3 := Tryd.zeroValue3
  t4 := Tryd.underlying4
  a4 := Tryd.isAgg4
  z4 := Tryd.sizeOf4
  v4 := Tryd.zeroValue4
  t5 := Tryd.underlying5
  a5 := Tryd.isAgg5
  z5 := Tryd.sizeOf5
  v5 := Tryd.zeroValue5
  t9 := Tryd.underlying9
  a9 := Tryd.isAgg9
  z9 := Tryd.sizeOf9
  v9 := Tryd.zeroValue9
  t21 := Tryd.underlying21
  a21 := Tryd.isAgg21
  z21 := Tryd.sizeOf21
  v21 := Tryd.zeroValue21
  t46 := Tryd.underlying86
  a46 := Tryd.isAgg86
  z46 := Tryd.sizeOf86
  v46 := Tryd.zeroValue86
  t105 := Tryd.underlying115
  a105 := Tryd.isAgg115
  z105 := Tryd.sizeOf115
  v105 := Tryd.zeroValue115
  t116 := Tryd.underlying95
  a116 := Tryd.isAgg95
  z116 := Tryd.sizeOf95
  t117 := Tryd.underlying96
  a117 := Tryd.isAgg96
  z117 := Tryd.sizeOf96
  v117 := Tryd.zeroValue96
  t119 := Tryd.underlying141
  a119 := Tryd.isAgg141
  z119 := Tryd.sizeOf141
  t124 := Tryd.underlying99
  a124 := Tryd.isAgg99
  z124 := Tryd.sizeOf99
  v124 := Tryd.zeroValue99
  t138 := Tryd.underlying143
  a138 := Tryd.isAgg143
  z138 := Tryd.sizeOf143
  v138 := Tryd.zeroValue143
  t139 := Tryd.underlying144
  a139 := Tryd.isAgg144
  z139 := Tryd.sizeOf144
  v139 := Tryd.zeroValue144
  g3 := by kernel_rfl
  g4 := by kernel_rfl }
def Tryd.laysM171_ren : Go.Shelf.Ren := ⟨fun | 171 => 59 | 243 => 76 | 246 => 98 | 283 => 111 | 284 => 112 | 285 => 113 | 286 => 114 | 129 => 122 | 317 => 121 | 318 => 123 | 319 => 124 | 320 => 125 | 337 => 130 | 338 => 131 | n => n, fun | 3 => 3 | 9 => 9 | 2 => 2 | 4 => 4 | 171 => 125 | 0 => 0 | 53 => 49 | 37 => 46 | 5 => 5 | 173 => 128 | 212 => 138 | 51 => 48 | 20 => 20 | 213 => 139 | 46 => 86 | 232 => 149 | 233 => 150 | n => n, fun | 17 => 2 | 18 => 6 | 19 => 7 | n => n⟩
theorem Tryd.laysM171 : Go.Proofs.LaysM.n171 Tryd.prog Tryd.laysM171_ren := {
  mixed := by kernel_rfl
  f129 := Tryd.func122.trans (congrArg some (by kernel_rfl))
  f171 := Tryd.func59.trans (congrArg some (by kernel_rfl))
  f243 := Tryd.func76.trans (congrArg some (by kernel_rfl))
  f246 := Tryd.func98.trans (congrArg some (by kernel_rfl))
  f283 := Tryd.func111.trans (congrArg some (by kernel_rfl))
  f284 := Tryd.func112.trans (congrArg some (by kernel_rfl))
  f285 := Tryd.func113.trans (congrArg some (by kernel_rfl))
  f286 := Tryd.func114.trans (congrArg some (by kernel_rfl))
  f317 := Tryd.func121.trans (congrArg some (by kernel_rfl))
  f318 := Tryd.func123.trans (congrArg some (by kernel_rfl))
  f319 := Tryd.func124.trans (congrArg some (by kernel_rfl))
  f320 := Tryd.func125.trans (congrArg some (by kernel_rfl))
  f337 := Tryd.func130.trans (congrArg some (by kernel_rfl))
  f338 := Tryd.func131.trans (congrArg some (by kernel_rfl))
  t0 := Tryd.underlying0
  a0 := Tryd.isAgg0
  z0 := Tryd.sizeOf0
  v0 := Tryd.zeroValue0
  t2 := Tryd.underlying2
  a2 := Tryd.isAgg2
  z2 := Tryd.sizeOf2
  v2 := Tryd.zeroValue2
  t3 := Tryd.underlying3
  a3 := Tryd.isAgg3
  z3 := Tryd.sizeOf3
  v3 := Tryd.zeroValue3
  t4 := Tryd.underlying4
  a4 := Tryd.isAgg4
  z4 := Tryd.sizeOf4
  v4 := Tryd.zeroValue4
  t5 := Tryd.underlying5
  a5 := Tryd.isAgg5
  z5 := Tryd.sizeOf5
  v5 := Tryd.zeroValue5
  t9 := Tryd.underlying9
  a9 := Tryd.isAgg9
  z9 := Tryd.sizeOf9
  v9 := Tryd.zeroValue9
  t20 := Tryd.underlying20
  a20 := Tryd.isAgg20
  z20 := Tryd.sizeOf20
  v20 := Tryd.zeroValue20
  t37 := Tryd.underlying46
  a37 := Tryd.isAgg46
  z37 := Tryd.sizeOf46
  v37 := Tryd.zeroValue46
  t46 := Tryd.underlying86
  a46 := Tryd.isAgg86
  z46 := Tryd.sizeOf86
  v46 := Tryd.zeroValue86
  t51 := Tryd.underlying48
  a51 := Tryd.isAgg48
  z51 := Tryd.sizeOf48
  v51 := Tryd.zeroValue48
  t53 := Tryd.underlying49
  a53 := Tryd.isAgg49
  z53 := Tryd.sizeOf49
  v53 := Tryd.zeroValue49
  t171 := Tryd.underlying125
  a171 := Tryd.isAgg125
  z171 := Tryd.sizeOf125
  v171 := Tryd.zeroValue125
  t173 := Tryd.underlying128
  a173 := Tryd.isAgg128
  z173 := Tryd.sizeOf128
  v173 := Tryd.zeroValue128
  t212 := Tryd.underlying138
  a212 := Tryd.isAgg138
  z212 := Tryd.sizeOf138
  v212 := Tryd.zeroValue138
  t213 := Tryd.underlying139
  a213 := Tryd.isAgg139
  z213 := Tryd.sizeOf139
  t232 := Tryd.underlying149
  a232 := Tryd.isAgg149
  z232 := Tryd.sizeOf149
  v232 := Tryd.zeroValue149
  t233 := Tryd.underlying150
  a233 := Tryd.isAgg150
  z233 := Tryd.sizeOf150
  v233 := Tryd.zeroValue150
  g17 := by kernel_rfl
  g18 := by kernel_rfl
  g19 := by kernel_rfl
  i0 := by kernel_rfl
  i2 := by kernel_rfl
  i3 := by kernel_rfl
  i4 := by kernel_rfl
  i5 := by kernel_rfl
  i9 := by kernel_rfl
  i20 := by kernel_rfl
  i37 := by kernel_rfl
  i46 := by kernel_rfl
  i51 := by kernel_rfl
  i53 := by kernel_rfl
  i171 := by kernel_rfl
  i173 := by kernel_rfl
  i212 := by kernel_rfl
  i232 := by kernel_rfl
  i233 := by kernel_rfl
  m17 := by kernel_rfl
  m18 := by kernel_rfl
  m19 := by kernel_rfl }
open Go.RowKit Go.Sort Go.Lib in
theorem Tryd.strconv_Itoa (n : Int) (h0 : -9223372036854775808 ≤ n) (h1 : n ≤ 9223372036854775807) (w : World) (htab : Lib.TabIs Tryd.prog w "internal/strconv.uint64pow10" .u64 Lib.pow10Tab) :
    Calls Tryd.prog 59 #[.int .i64 n] w fun e w' => e = .returned (.string ⟨(Lib.itoa n).toArray⟩) ∧ ∃ k os, w' = grow (w.drewN k) os := Any.strconv_Itoa Tryd.laysM171 n h0 h1 w htab
def Tryd.laysC172_ren : Go.Shelf.Ren := ⟨fun | 172 => 55 | 244 => 72 | 245 => 73 | 247 => 92 | 279 => 93 | 280 => 94 | 281 => 95 | 282 => 96 | 287 => 108 | 316 => 109 | 171 => 59 | 205 => 110 | 321 => 119 | 322 => 120 | 243 => 76 | 246 => 98 | 283 => 111 | 284 => 112 | 285 => 113 | 286 => 114 | 129 => 122 | 317 => 121 | 318 => 123 | 319 => 124 | 320 => 125 | 337 => 130 | 338 => 131 | n => n, fun | 9 => 9 | 3 => 3 | 75 => 67 | 76 => 68 | 4 => 4 | 5 => 5 | 167 => 101 | 37 => 46 | 0 => 0 | 85 => 102 | 2 => 2 | 168 => 104 | 53 => 49 | 175 => 119 | 46 => 86 | 210 => 123 | 127 => 92 | 145 => 135 | 143 => 133 | 21 => 21 | 171 => 125 | 173 => 128 | 212 => 138 | 51 => 48 | 20 => 20 | 213 => 139 | 232 => 149 | 233 => 150 | 80 => 78 | n => n, fun | 15 => 0 | 16 => 1 | 17 => 2 | 18 => 6 | 19 => 7 | n => n⟩
theorem Tryd.laysC172 : Go.Proofs.LaysC.n172 Tryd.prog Tryd.laysC172_ren := {
  mixed := by kernel_rfl
  f129 := Tryd.func122.trans (congrArg some (by kernel_rfl))
  f171 := Tryd.func59.trans (congrArg some (by kernel_rfl))
  f172 := Tryd.func55.trans (congrArg some (by kernel_rfl))
  f205 := Tryd.func110.trans (congrArg some (by kernel_rfl))
  f243 := Tryd.func76.trans (congrArg some (by kernel_rfl))
  f244 := Tryd.func72.trans (congrArg some (by kernel_rfl))
  f245 := Tryd.func73.trans (congrArg some (by kernel_rfl))
  f246 := Tryd.func98.trans (congrArg some (by kernel_rfl))
  f247 := Tryd.func92.trans (congrArg some (by kernel_rfl))
  f279 := Tryd.func93.trans (congrArg some (by kernel_rfl))
  f280 := Tryd.func94.trans (congrArg some (by kernel_rfl))
  f281 := Tryd.func95.trans (congrArg some (by kernel_rfl))
  f282 := Tryd.func96.trans (congrArg some (by kernel_rfl))
  f283 := Tryd.func111.trans (congrArg some (by kernel_rfl))
  f284 := Tryd.func112.trans (congrArg some (by kernel_rfl))
  f285 := Tryd.func113.trans (congrArg some (by kernel_rfl))
  f286 := Tryd.func114.trans (congrArg some (by kernel_rfl))
  f287 := Tryd.func108.trans (congrArg some (by kernel_rfl))
  f316 := Tryd.func109.trans (congrArg some (by kernel_rfl))
  f317 := Tryd.func121.trans (congrArg some (by kernel_rfl))
  f318 := Tryd.func123.trans (congrArg some (by kernel_rfl))
  f319 := Tryd.func124.trans (congrArg some (by kernel_rfl))
  f320 := Tryd.func125.trans (congrArg some (by kernel_rfl))
  f321 := Tryd.func119.trans (congrArg some (by kernel_rfl))
  f322 := Tryd.func120.trans (congrArg some (by kernel_rfl))
  f337 := Tryd.func130.trans (congrArg some (by kernel_rfl))
  f338 := Tryd.func131.trans (congrArg some (by kernel_rfl))
  t0 := Tryd.underlying0
  a0 := Tryd.isAgg0
  z0 := Tryd.sizeOf0
  v0 := Tryd.zeroValue0
  t2 := Tryd.underlying2
  a2 := Tryd.isAgg2
  z2 := Tryd.sizeOf2
  v2 := Tryd.zeroValue2
  t3 := Tryd.underlying3
  a3 := Tryd.isAgg3
  z3 := Tryd.sizeOf3
  v3 := Tryd.zeroValue3
  t4 := Tryd.underlying4
  a4 := Tryd.isAgg4
  z4 := Tryd.sizeOf4
  v4 := Tryd.zeroValue4
  t5 := Tryd.underlying5
  a5 := Tryd.isAgg5
  z5 := Tryd.sizeOf5
  v5 := Tryd.zeroValue5
  t9 := Tryd.underlying9
  a9 := Tryd.isAgg9
  z9 := Tryd.sizeOf9
  v9 := Tryd.zeroValue9
  t20 := Tryd.underlying20
  a20 := Tryd.isAgg20
  z20 := Tryd.sizeOf20
  v20 := Tryd.zeroValue20
  t21 := Tryd.underlying21
  a21 := Tryd.isAgg21
  z21 := Tryd.sizeOf21
  v21 := Tryd.zeroValue21
  t37 := Tryd.underlying46
  a37 := Tryd.isAgg46
  z37 := Tryd.sizeOf46
  v37 := Tryd.zeroValue46
  t46 := Tryd.underlying86
  a46 := Tryd.isAgg86
  z46 := Tryd.sizeOf86
  v46 := Tryd.zeroValue86
  t51 := Tryd.underlying48
  a51 := Tryd.isAgg48
  z51 := Tryd.sizeOf48
  v51 := Tryd.zeroValue48
  t53 := Tryd.underlying49
  a53 := Tryd.isAgg49
  z53 := Tryd.sizeOf49
  v53 := Tryd.zeroValue49
  t75 := Tryd.underlying67
  a75 := Tryd.isAgg67
  z75 := Tryd.sizeOf67
  v75 := Tryd.zeroValue67
  t76 := Tryd.underlying68
  a76 := Tryd.isAgg68
  z76 := Tryd.sizeOf68
  v76 := Tryd.zeroValue68
  t85 := Tryd.underlying102
  a85 := Tryd.isAgg102
  z85 := Tryd.sizeOf102
  v85 := Tryd.zeroValue102
  t127 := Tryd.underlying92
  a127 := Tryd.isAgg92
  z127 := Tryd.sizeOf92
  v127 := Tryd.zeroValue92
  t143 := Tryd.underlying133
  a143 := Tryd.isAgg133
  z143 := Tryd.sizeOf133
  v143 := Tryd.zeroValue133
  t145 := Tryd.underlying135
  a145 := Tryd.isAgg135
  z145 := Tryd.sizeOf135
  v145 := Tryd.zeroValue135
  t167 := Tryd.underlying101
  a167 := Tryd.isAgg101
  z167 := Tryd.sizeOf101
  v167 := Tryd.zeroValue101
  t168 := Tryd.underlying104
  a168 := Tryd.isAgg104
  z168 := Tryd.sizeOf104
  v168 := Tryd.zeroValue104
  t171 := Tryd.underlying125
  a171 := Tryd.isAgg125
  z171 := Tryd.sizeOf125
  v171 := Tryd.zeroValue125
  t173 := Tryd.underlying128
  a173 := Tryd.isAgg128
  z173 := Tryd.sizeOf128
  v173 := Tryd.zeroValue128
  t175 := Tryd.underlying119
  a175 := Tryd.isAgg119
  z175 := Tryd.sizeOf119
  v175 := Tryd.zeroValue119
  t210 := Tryd.underlying123
  a210 := Tryd.isAgg123
  z210 := Tryd.sizeOf123
  v210 := Tryd.zeroValue123
  t212 := Tryd.underlying138
  a212 := Tryd.isAgg138
  z212 := Tryd.sizeOf138
  v212 := Tryd.zeroValue138
  t213 := Tryd.underlying139
  a213 := Tryd.isAgg139
  z213 := Tryd.sizeOf139
  t232 := Tryd.underlying149
  a232 := Tryd.isAgg149
  z232 := Tryd.sizeOf149
  v232 := Tryd.zeroValue149
  t233 := Tryd.underlying150
  a233 := Tryd.isAgg150
  z233 := Tryd.sizeOf150
  v233 := Tryd.zeroValue150
  g15 := by kernel_rfl
  g16 := by kernel_rfl
  g17 := by kernel_rfl
  g18 := by kernel_rfl
  g19 := by kernel_rfl
  t80 := Tryd.underlying78
  a80 := Tryd.isAgg78
  z80 := Tryd.sizeOf78
  v80 := Tryd.zeroValue78
  i0 := by kernel_rfl
  i2 := by kernel_rfl
  i3 := by kernel_rfl
  i4 := by kernel_rfl
  i5 := by kernel_rfl
  i9 := by kernel_rfl
  i20 := by kernel_rfl
  i21 := by kernel_rfl
  i37 := by kernel_rfl
  i46 := by kernel_rfl
  i51 := by kernel_rfl
  i53 := by kernel_rfl
  i75 := by kernel_rfl
  i76 := by kernel_rfl
  i80 := by kernel_rfl
  i85 := by kernel_rfl
  i127 := by kernel_rfl
  i143 := by kernel_rfl
  i145 := by kernel_rfl
  i167 := by kernel_rfl
  i168 := by kernel_rfl
  i171 := by kernel_rfl
  i173 := by kernel_rfl
  i175 := by kernel_rfl
  i210 := by kernel_rfl
  i212 := by kernel_rfl
  i232 := by kernel_rfl
  i233 := by kernel_rfl
  m15 := by kernel_rfl
  m16 := by kernel_rfl
  m17 := by kernel_rfl
  m18 := by kernel_rfl
  m19 := by kernel_rfl
  c0 := by kernel_rfl
  c2 := by kernel_rfl
  c3 := by kernel_rfl
  c4 := by kernel_rfl
  c5 := by kernel_rfl
  c9 := by kernel_rfl
  c20 := by kernel_rfl
  c21 := by kernel_rfl
  c37 := by kernel_rfl
  c46 := by kernel_rfl
  c51 := by kernel_rfl
  c53 := by kernel_rfl
  c75 := by kernel_rfl
  c76 := by kernel_rfl
  c80 := by kernel_rfl
  c85 := by kernel_rfl
  c127 := by kernel_rfl
  c143 := by kernel_rfl
  c145 := by kernel_rfl
  c167 := by kernel_rfl
  c168 := by kernel_rfl
  c171 := by kernel_rfl
  c173 := by kernel_rfl
  c175 := by kernel_rfl
  c210 := by kernel_rfl
  c212 := by kernel_rfl
  c213 := by kernel_rfl
  c232 := by kernel_rfl
  c233 := by kernel_rfl }
open Go.RowKit in
theorem Tryd.strconv_Atoi_ok (s : ByteArray) (hmax : s.size ≤ 9223372036854775806) (v : Int) (h : Lib.atoiAll s.data.toList = .ok v) (w : World) :
    Calls Tryd.prog 55 #[.string s] w fun e w' => e = .returned (.tuple #[.int .i64 v, .nilIface]) ∧ (w' = w ∨ ∃ t, w' = Lib.bytesWorld w 5 t) := Any.strconv_Atoi_ok Tryd.laysC172 s hmax v h w
open Go.RowKit in
theorem Tryd.strconv_Atoi_syntax (s : ByteArray) (hlim : s.size ≤ 281474976710656) (h : Lib.atoiAll s.data.toList = Lib.atoiAll []) (ev : Value) (w : World) (hv : w.cell? ⟨0, 0, none⟩ = some ev) (hev : ev = .nilIface ∨ ∃ te pe, ev = .iface te pe) :
    Calls Tryd.prog 55 #[.string s] w fun e w' => ∃ N, e = .returned (.tuple #[.int .i64 (0), .iface 104 (.pointer (some ⟨N, 0, none⟩))]) ∧ w.heap.size ≤ N ∧ w'.heap[N]? = some (.cells #[.string ⟨#[65, 116, 111, 105]⟩, .string s, ev] 123 (0, 0)) ∧ Below w.heap.size w w' := Any.strconv_Atoi_syntax Tryd.laysC172 s hlim h ev w hv hev
open Go.RowKit in
theorem Tryd.strconv_Atoi_range (s : ByteArray) (hlim : s.size ≤ 281474976710656) (h : Lib.atoiAll s.data.toList = .range) (ev : Value) (w : World) (hv : w.cell? ⟨1, 0, none⟩ = some ev) (hev : ev = .nilIface ∨ ∃ te pe, ev = .iface te pe) :
    Calls Tryd.prog 55 #[.string s] w fun e w' => ∃ N, e = .returned (.tuple #[.int .i64 (Lib.atoiSat s.data.toList), .iface 104 (.pointer (some ⟨N, 0, none⟩))]) ∧ w.heap.size ≤ N ∧ w'.heap[N]? = some (.cells #[.string ⟨#[65, 116, 111, 105]⟩, .string s, ev] 123 (0, 0)) ∧ Below w.heap.size w w' := Any.strconv_Atoi_range Tryd.laysC172 s hlim h ev w hv hev
def Tryd.lays101_ren : Go.Shelf.Ren := ⟨fun | 101 => 63 | 208 => 81 | 206 => 101 | n => n, fun | 9 => 9 | 4 => 4 | 3 => 3 | n => n, fun | n => n⟩
theorem Tryd.lays101 : Go.Proofs.Lays.n101 Tryd.prog Tryd.lays101_ren := {
  mixed := by kernel_rfl
  f101 := Tryd.func63.trans (congrArg some (by kernel_rfl))
  f206 := Tryd.func101.trans (congrArg some (by kernel_rfl))
  f208 := Tryd.func81.trans (congrArg some (by kernel_rfl))
  t3 := Tryd.underlying3
  a3 := Tryd.isAgg3
  z3 := Tryd.sizeOf3
  v3 := Tryd.zeroValue3
  t4 := Tryd.underlying4
  a4 := Tryd.isAgg4
  z4 := Tryd.sizeOf4
  v4 := Tryd.zeroValue4
  t9 := Tryd.underlying9
  a9 := Tryd.isAgg9
  z9 := Tryd.sizeOf9
  v9 := Tryd.zeroValue9 }
open Go.RowKit Go.Lib in
theorem Tryd.strings_TrimPrefix (s p : ByteArray) (w : World) :
    Calls Tryd.prog 63 #[.string s, .string p] w fun e w' => e = .returned (.string ⟨(Lib.trimPrefix s.data.toList p.data.toList).toArray⟩) ∧ w' = w := Any.strings_TrimPrefix Tryd.lays101 s p w
def Tryd.lays105_ren : Go.Shelf.Ren := ⟨fun | 105 => 61 | 212 => 77 | 99 => 78 | 165 => 79 | 166 => 60 | 170 => 80 | 169 => 62 | 263 => 99 | 264 => 100 | 206 => 101 | 240 => 75 | 241 => 102 | 276 => 97 | 277 => 115 | n => n, fun | 9 => 9 | 3 => 3 | 4 => 4 | 20 => 20 | 0 => 0 | 46 => 86 | 109 => 87 | 5 => 5 | 72 => 74 | 76 => 68 | 51 => 48 | 146 => 110 | 53 => 49 | 148 => 112 | 70 => 72 | 37 => 46 | 75 => 67 | 127 => 92 | 164 => 107 | 80 => 78 | n => n, fun | n => n⟩
theorem Tryd.lays105 : Go.Proofs.Lays.n105 Tryd.prog Tryd.lays105_ren := {
  mixed := by kernel_rfl
  f99 := Tryd.func78.trans (congrArg some (by kernel_rfl))
  f105 := Tryd.func61.trans (congrArg some (by kernel_rfl))
  f165 := Tryd.func79.trans (congrArg some (by kernel_rfl))
  f166 := Tryd.func60.trans (congrArg some (by kernel_rfl))
  f169 := Tryd.func62.trans (congrArg some (by kernel_rfl))
  f170 := Tryd.func80.trans (congrArg some (by kernel_rfl))
  f206 := Tryd.func101.trans (congrArg some (by kernel_rfl))
  f212 := Tryd.func77.trans (congrArg some (by kernel_rfl))
  f240 := Tryd.func75.trans (congrArg some (by kernel_rfl))
  f241 := Tryd.func102.trans (congrArg some (by kernel_rfl))
  f263 := Tryd.func99.trans (congrArg some (by kernel_rfl))
  f264 := Tryd.func100.trans (congrArg some (by kernel_rfl))
  f276 := Tryd.func97.trans (congrArg some (by kernel_rfl))
  f277 := Tryd.func115.trans (congrArg some (by kernel_rfl))
  t0 := Tryd.underlying0
  a0 := Tryd.isAgg0
  z0 := Tryd.sizeOf0
  v0 := Tryd.zeroValue0
  t3 := Tryd.underlying3
  a3 := Tryd.isAgg3
  z3 := Tryd.sizeOf3
  v3 := Tryd.zeroValue3
  t4 := Tryd.underlying4
  a4 := Tryd.isAgg4
  z4 := Tryd.sizeOf4
  v4 := Tryd.zeroValue4
  t5 := Tryd.underlying5
  a5 := Tryd.isAgg5
  z5 := Tryd.sizeOf5
  v5 := Tryd.zeroValue5
  t9 := Tryd.underlying9
  a9 := Tryd.isAgg9
  z9 := Tryd.sizeOf9
  v9 := Tryd.zeroValue9
  t20 := Tryd.underlying20
  a20 := Tryd.isAgg20
  z20 := Tryd.sizeOf20
  v20 := Tryd.zeroValue20
  t37 := Tryd.underlying46
  a37 := Tryd.isAgg46
  z37 := Tryd.sizeOf46
  v37 := Tryd.zeroValue46
  t46 := Tryd.underlying86
  a46 := Tryd.isAgg86
  z46 := Tryd.sizeOf86
  v46 := Tryd.zeroValue86
  t51 := Tryd.underlying48
  a51 := Tryd.isAgg48
  z51 := Tryd.sizeOf48
  v51 := Tryd.zeroValue48
  t53 := Tryd.underlying49
  a53 := Tryd.isAgg49
  z53 := Tryd.sizeOf49
  v53 := Tryd.zeroValue49
  t70 := Tryd.underlying72
  a70 := Tryd.isAgg72
  z70 := Tryd.sizeOf72
  v70 := Tryd.zeroValue72
  t72 := Tryd.underlying74
  a72 := Tryd.isAgg74
  z72 := Tryd.sizeOf74
  v72 := Tryd.zeroValue74
  t75 := Tryd.underlying67
  a75 := Tryd.isAgg67
  z75 := Tryd.sizeOf67
  v75 := Tryd.zeroValue67
  t76 := Tryd.underlying68
  a76 := Tryd.isAgg68
  z76 := Tryd.sizeOf68
  v76 := Tryd.zeroValue68
  t109 := Tryd.underlying87
  a109 := Tryd.isAgg87
  z109 := Tryd.sizeOf87
  v109 := Tryd.zeroValue87
  t127 := Tryd.underlying92
  a127 := Tryd.isAgg92
  z127 := Tryd.sizeOf92
  v127 := Tryd.zeroValue92
  t146 := Tryd.underlying110
  a146 := Tryd.isAgg110
  z146 := Tryd.sizeOf110
  v146 := Tryd.zeroValue110
  t148 := Tryd.underlying112
  a148 := Tryd.isAgg112
  z148 := Tryd.sizeOf112
  v148 := Tryd.zeroValue112
  t164 := Tryd.underlying107
  a164 := Tryd.isAgg107
  z164 := Tryd.sizeOf107
  v164 := Tryd.zeroValue107 }
theorem Tryd.Builder_Extra_105 : Builder.Extra Tryd.prog Tryd.lays105_ren := {
  sizeBuilder := by kernel_rfl
  liesBuilder := by kernel_rfl
  t5 := Tryd.underlying5
  a5 := Tryd.isAgg5
  z5 := Tryd.sizeOf5
  v5 := Tryd.zeroValue5
  infoByte := by kernel_rfl
  cellsByte := by kernel_rfl
  sizeByte := by kernel_rfl
  neB5 := by decide }
open Go.RowKit Go.Lib in
theorem Tryd.strings_Repeat (s : ByteArray) (c : Nat) (w : World) (hc : c ≤ 9223372036854775807) (hlen : s.size * c ≤ 140737488355328) :
    Calls Tryd.prog 61 #[.string s, .int .i64 c] w fun e w' => e = .returned (.string ⟨(Lib.repeatL s.data.toList c).toArray⟩) ∧ Below w.heap.size w w' := Any.strings_Repeat Tryd.lays105 Tryd.Builder_Extra_105 s c w hc hlen
end Go.Proofs
end
section
set_option linter.unusedVariables false
namespace Go.Proofs.YtflmioakfboanaaDoor.Ev
open Go Go.RowKit
theorem tabAt_ints {w : World} {g : Nat} {k : IntKind} {zs : List Int} (h : TabAt w (fun _ => True) g (zs.map fun z => FV.int k z)) : ∃ t z, w.heap[g]? = some (.cells (zs.map fun z => Value.int k z).toArray t z) := by
  obtain ⟨c, t, z, h1, h2, h3⟩ := h
  refine ⟨t, z, ?_⟩
  rw [h1]
  congr 2
  apply Array.ext
  · simpa using h2
  · intro i hi hi'
    have hi2 : i < zs.length := by simpa using hi'
    obtain ⟨v, hv, hr⟩ := h3 i (.int k zs[i]) (by simp [hi2])
    cases hr
    rw [Array.getElem?_eq_getElem hi] at hv
    simpa using hv
theorem tab_pow10 {w : World} (h : Glob w) : Lib.TabIs Tryd.prog w "internal/strconv.uint64pow10" .u64 Lib.pow10Tab := by
  have hg : Tryd.prog.globalNamed "internal/strconv.uint64pow10" = some 2 := by kernel_rfl
  have hm : (2, (List.range 20).map fun i => FV.int .u64 ((10 ^ i : Nat) : Int)) ∈ tabs := by simp [tabs]
  have h1 := h _ hm
  rw [show ((List.range 20).map fun i => FV.int .u64 ((10 ^ i : Nat) : Int)) = (Lib.pow10Tab.map fun z => FV.int .u64 z) by simp [Lib.pow10Tab]] at h1
  obtain ⟨t, z, h2⟩ := tabAt_ints h1
  unfold Lib.TabIs World.var?
  rw [hg]
  simp only [Option.bind_some, h2]
def itoaS (n : Int) : ByteArray := ⟨(Lib.itoa n).toArray⟩
theorem Itoa_fn (n : Int) (h0 : -9223372036854775808 ≤ n) (h1 : n ≤ 9223372036854775807) : Fn Tryd.prog 59 [.one (.fz (.int .i64 n))] [] (.one (.fz (.str (itoaS n)))) [] :=
  Fn.of_below [.int .i64 n] rfl rfl fun w hg => by
    refine (Tryd.strconv_Itoa n h0 h1 w (tab_pow10 hg)).mono ?_
    rintro e w' ⟨rfl, k, os, rfl⟩
    exact ⟨rfl, Lib.below_grow _ _ (Nat.le_refl _) _ _⟩
def repeatS (s : ByteArray) (c : Int) : ByteArray := ⟨(Lib.repeatL s.data.toList c.toNat).toArray⟩
theorem Repeat_fn (s : ByteArray) (c : Int) (h0 : 0 ≤ c) (hc : c ≤ 9223372036854775807) (hlen : s.size * c.toNat ≤ 140737488355328) : Fn Tryd.prog 61 [.one (.fz (.str s)), .one (.fz (.int .i64 c))] [] (.one (.fz (.str (repeatS s c)))) [] :=
  Fn.of_below [.str s, .int .i64 c] rfl rfl fun w hg => by
    obtain ⟨m, rfl⟩ := Int.eq_ofNat_of_zero_le h0
    refine (Tryd.strings_Repeat s m w (by omega) (by simpa using hlen)).mono ?_
    rintro e w' ⟨rfl, hb⟩
    exact ⟨rfl, hb⟩
end Go.Proofs.YtflmioakfboanaaDoor.Ev
end
section
set_option linter.unusedVariables false
set_option linter.unusedSimpArgs false
namespace Go.Proofs.YtflmioakfboanaaDoor.Ev
open Go
def tdig (n : Nat) : List Int := (digs 10 n).reverse.map (48 + ·)
def numT (s : Bool) (l : List Int) : List Int := if sndB s l = true then (if l.length = 0 then [48] else (if s = true then [45] else []) ++ tdig (val 1000000000 l).toNat) else []
theorem tdig_bytes (n : Nat) : Bytes (tdig n) := by
  intro x hx
  simp only [tdig, List.mem_map, List.mem_reverse] at hx
  obtain ⟨y, hy, rfl⟩ := hx
  have := digsT_lim n y hy
  omega
theorem tdig_len (n : Nat) : (tdig n).length = (digs 10 n).length := by simp [tdig]
theorem numT_bytes (s : Bool) (l : List Int) : Bytes (numT s l) := by
  unfold numT
  split
  · split
    · intro x hx; simp at hx; omega
    · refine Bytes.append ?_ (tdig_bytes _)
      split
      · intro x hx; simp at hx; omega
      · exact Bytes.nil
  · exact Bytes.nil
theorem decDigits_tdig (u : Nat) (hu : 0 < u) : Lib.decDigits u = (tdig u).map fun n => UInt8.ofNat n.toNat := by
  induction u using Nat.strongRecOn with
  | _ u ih =>
    unfold tdig
    rw [Lib.decDigits, digs_pos (by omega) hu]
    split
    · rename_i h
      rw [Nat.div_eq_of_lt h, digs_zero, Nat.mod_eq_of_lt h]
      simp only [List.reverse_cons, List.reverse_nil, List.nil_append, List.map_cons, List.map_nil]
      congr 2
    · rename_i h
      rw [ih (u / 10) (by omega) (by omega)]
      simp only [List.reverse_cons, List.map_append, List.map_cons, List.map_nil]
      unfold tdig
      congr 3
theorem itoa_of (n : Nat) (hn : 0 < n) : itoaS n = bytesOf (tdig n) := by
  unfold itoaS bytesOf Lib.itoa
  rw [if_neg (by omega), Int.toNat_natCast, decDigits_tdig n hn]
theorem itoa_zero : itoaS 0 = bytesOf [48] := by decide +kernel
def nine (n : Nat) : List Int := digs 10 n ++ List.replicate (9 - (digs 10 n).length) 0
theorem nine_len {n : Nat} (h : n < 1000000000) : (nine n).length = 9 := by
  have : (digs 10 n).length ≤ 9 := (digs_len (by omega) _ _).2 (by omega)
  simp [nine]; omega
theorem nine_join {x v : Nat} (hx : x < 1000000000) (hv : 0 < v) : digs 10 (x + 1000000000 * v) = nine x ++ digs 10 v := by
  have hl := nine_len hx
  have hL : Lim 10 (nine x ++ digs 10 v) := ((digsT_lim x).append (Lim.replicate (by omega) _)).append (digsT_lim v)
  have hN : Norm (nine x ++ digs 10 v) := by
    intro h
    have hd : digs 10 v ≠ [] := fun e => by have := (digs_nil (B := 10) (by omega) v).1 e; omega
    rw [List.getLast_append_of_ne_nil _ hd]
    exact digsT_norm v hd
  have hV : val 10 (nine x ++ digs 10 v) = ((x + 1000000000 * v : Nat) : Int) := by
    rw [val_append, hl, digsT_val]
    have : val 10 (nine x) = x := by unfold nine; rw [val_append, val_replicate, digsT_val]; omega
    rw [this]
    have : (10 : Int) ^ 9 = 1000000000 := by decide
    rw [this]
    rw [Int.natCast_add, Int.natCast_mul]
    rfl
  exact (digs_eq' (B := 10) (by omega) hL hN hV).symm
theorem tdig_join {x v : Nat} (hx : x < 1000000000) (hv : 0 < v) : tdig (x + 1000000000 * v) = tdig v ++ (List.replicate (9 - (digs 10 x).length) 48 ++ tdig x) := by
  unfold tdig
  rw [nine_join hx hv]
  unfold nine
  simp only [List.reverse_append, List.reverse_replicate, List.map_append, List.map_replicate, Int.add_zero]
theorem repeat_zero (n : Nat) : repeatS (bytesOf [48]) n = bytesOf (List.replicate n 48) := by
  have : ∀ n : Nat, Lib.repeatL [48] n = (List.replicate n (48 : Int)).map fun n => UInt8.ofNat n.toNat := by
    intro n
    induction n with
    | zero => rfl
    | succ n ih => rw [List.replicate_succ, List.map_cons, Lib.repeatL, ih]; rfl
  unfold repeatS bytesOf
  rw [Int.toNat_natCast]
  exact congrArg ByteArray.mk (congrArg List.toArray (this n))
theorem text_loop (s : Bool) (l : List Int) (hl : l.length ≤ 64) (hL : Lim 1000000000 l) (hn : Norm l) (g : List Int) (hg : g.length ≤ 1) (hgb : Bytes g) (R : TV → List Ob → Prop) (hR : R (.one (.fz (.str (bytesOf (g ++ tdig (val 1000000000 l).toNat))))) []) :
    ∀ (k : Nat), k ≤ l.length → g ++ tdig (val 1000000000 (l.drop k)).toNat ≠ [] → num_Text_L0 R s (ints .u32 l) ((k : Int) - 1) (ints .u8 (g ++ tdig (val 1000000000 (l.drop k)).toNat)) := by
  have hlen : ∀ k, k ≤ l.length → (g ++ tdig (val 1000000000 (l.drop k)).toNat).length ≤ 100000 := by
    intro k hk
    have h1 : (digs 10 (val 1000000000 (l.drop k)).toNat).length ≤ 576 := by
      rw [digs_len (by omega)]
      have h0 := val_nonneg (B := 1000000000) (by omega) (hL.drop k)
      have h1 := val_lt (B := 1000000000) (by omega) (hL.drop k)
      have h2 : (1000000000 : Int) ^ (l.drop k).length ≤ 1000000000 ^ 64 := pow_mono (by omega) (by simp; omega)
      have h3 : (10 : Int) ^ 576 = 1000000000 ^ 64 := pow9 64
      have h4 : (((10 : Nat) ^ 576 : Nat) : Int) = 10 ^ 576 := cast_ten_pow 576
      omega
    simp [tdig_len]; omega
  intro k
  induction k with
  | zero =>
    intro _ hne
    rw [List.drop_zero] at hne ⊢
    have h0 := hlen 0 (by omega)
    rw [List.drop_zero] at h0
    refine num_Text_l0 ?_
    unfold num_Text_R0
    refine ⟨fun h => by simp at h, fun _ => ⟨_, _, stringU_ok _ hne (hgb.append (tdig_bytes _)) (by omega), hR⟩⟩
  | succ k ih =>
    intro hk hne
    have hx := hL.rd (by omega) k
    have va := val_drop 1000000000 l k (by omega)
    have hv0 := val_nonneg (B := 1000000000) (by omega) (hL.drop (k + 1))
    obtain ⟨x, hX⟩ : ∃ x : Nat, rd l k = x := ⟨(rd l k).toNat, by omega⟩
    obtain ⟨v, hV⟩ : ∃ v : Nat, val 1000000000 (l.drop (k + 1)) = v := ⟨(val 1000000000 (l.drop (k + 1))).toNat, by omega⟩
    rw [hX] at hx va
    rw [hV] at va hne ⊢
    have hl2 := hlen (k + 1) hk
    rw [hV] at hl2
    have hval : (val 1000000000 (l.drop k)).toNat = x + 1000000000 * v := by rw [va]; omega
    rw [hval] at ih
    rw [Int.toNat_natCast] at hne hl2 ⊢
    have hnx : (x + 1000000000 * v ≠ 0) := by
      intro e
      have hd : Norm (l.drop k) := by
        intro h0
        rw [List.getLast_drop]
        exact hn _
      have := (val_zero_iff (B := 1000000000) (by omega) (hL.drop k) hd).1 (by rw [va]; omega)
      have hlen0 : (l.drop k).length = 0 := by rw [this]; rfl
      simp at hlen0
      omega
    have hne2 : g ++ tdig (x + 1000000000 * v) ≠ [] := by
      intro e
      have e2 : tdig (x + 1000000000 * v) = [] := (List.append_eq_nil_iff.1 e).2
      have : (digs 10 (x + 1000000000 * v)).length = 0 := by rw [← tdig_len, e2]; rfl
      exact hnx ((digs_nil (B := 10) (by omega) _).1 (List.length_eq_zero_iff.1 this))
    have ih2 := ih (by omega) hne2
    refine num_Text_l0 ?_
    have e1 : (((k + 1 : Nat) : Int) - 1) = (k : Int) := by omega
    have e2 : IntKind.wrap .i64 ((k : Int) - 1) = (k : Int) - 1 := w64 (by omega) (by omega)
    have e3 : IntKind.wrap .i64 ((l.length : Int) - 1) = (l.length : Int) - 1 := w64 (by omega) (by omega)
    have e4 : IntKind.wrap .i64 ((x : Nat) : Int) = (x : Int) := w64 (by omega) (by omega)
    unfold num_Text_R0
    rw [e1, ints_len, e2, e3]
    refine ⟨fun _ => ⟨by omega, ?_⟩, fun h => by simp at h⟩
    rw [Int.toNat_natCast, ex_rd, hX, e4]
    refine ⟨by omega, _, Itoa_fn x (by omega) (by omega), ?_⟩
    rw [dec_t, dec_f]
    have hd9 : (digs 10 x).length ≤ 9 := (digs_len (by omega) _ _).2 (by omega)
    refine ⟨fun hlt => ?_, fun hge => ?_⟩
    ·
      have hv : 0 < v := by
        rcases Nat.eq_zero_or_pos v with h | h
        · subst h
          have hd : Norm (l.drop (k + 1)) := by
            intro h0
            rw [List.getLast_drop]
            exact hn _
          have := (val_zero_iff (B := 1000000000) (by omega) (hL.drop (k + 1)) hd).1 (by rw [hV]; rfl)
          have hlen0 : (l.drop (k + 1)).length = 0 := by rw [this]; rfl
          simp at hlen0
          omega
        · exact h
      have hxt : ∃ (m : Nat) (t : List Int), itoaS x = bytesOf t ∧ Bytes t ∧ t.length ≤ 9 ∧ m = 9 - t.length ∧ tdig (x + 1000000000 * v) = tdig v ++ List.replicate m 48 ++ t := by
        rcases Nat.eq_zero_or_pos x with h | h
        · subst h
          refine ⟨8, [48], itoa_zero, by intro y hy; simp at hy; omega, by simp, rfl, ?_⟩
          rw [tdig_join (by omega) hv, digs_zero]
          unfold tdig
          rw [digs_zero]
          simp [List.replicate_succ]
        · refine ⟨9 - (digs 10 x).length, tdig x, itoa_of x h, tdig_bytes x, by rw [tdig_len]; exact hd9, by rw [tdig_len], ?_⟩
          rw [tdig_join (by omega) hv, List.append_assoc]
      obtain ⟨m, t, t1, t2, t3, t4, t5⟩ := hxt
      have t6 : (itoaS x).size = t.length := by rw [t1, size_of]
      have e5 : IntKind.wrap .i64 (9 - (((itoaS x).size : Nat) : Int)) = (m : Int) := by rw [t6, w64 (by omega) (by omega)]; omega
      have e6 : (ByteArray.mk #[48]) = bytesOf [48] := rfl
      have hrep : Bytes (List.replicate m (48 : Int)) := by intro y hy; have := List.eq_of_mem_replicate hy; omega
      have w1 := writeStringU_ok (repeatS (bytesOf [48]) m) (g ++ tdig v) (by rw [repeat_zero, bs_of hrep]; simp; omega) (by omega)
      rw [repeat_zero, bs_of hrep] at w1
      have w2 := writeStringU_ok (itoaS x) (g ++ tdig v ++ List.replicate m 48) (by rw [t1, bs_of t2]; omega) (by simp only [List.length_append, List.length_replicate] at hl2 ⊢; omega)
      rw [t1, bs_of t2] at w2
      rw [e5, e6, t1]
      refine ⟨_, Repeat_fn (bytesOf [48]) m (by omega) (by omega) (by rw [size_of]; simp; omega), _, _, by rw [repeat_zero]; exact w1, _, _, w2, ?_⟩
      have e7 : g ++ tdig v ++ List.replicate m 48 ++ t = g ++ tdig (x + 1000000000 * v) := by rw [t5]; simp [List.append_assoc]
      rw [e7]
      exact ih2
    ·
      have hk2 : k + 1 = l.length := by omega
      have hv : v = 0 := by
        have : l.drop (k + 1) = [] := List.drop_of_length_le (by omega)
        rw [this] at hV
        simp [val] at hV
        omega
      subst hv
      have hx0 : 0 < x := by omega
      rw [Nat.mul_zero, Nat.add_zero] at ih2
      have t0 : tdig 0 = [] := by unfold tdig; rw [digs_zero]; rfl
      rw [t0, List.append_nil] at hne hl2 ⊢
      have w2 := writeStringU_ok (itoaS x) g (by rw [itoa_of x hx0, bs_of (tdig_bytes x), tdig_len]; omega) (by omega)
      rw [itoa_of x hx0, bs_of (tdig_bytes x)] at w2
      rw [itoa_of x hx0]
      exact ⟨_, _, w2, ih2⟩
theorem text_ok (s : Bool) (l : List Int) (hu : U32 l) (hl : l.length ≤ 100000) : Fn Tryd.prog 33 [fzN s l] [] (.one (.fz (.str (bytesOf (numT s l))))) [] := by
  refine num_Text_fn _ _ ?_
  unfold num_Text_H
  refine ⟨_, sound_ok s l (by omega), ?_⟩
  rw [not_t, not_f]
  unfold numT
  refine ⟨fun h => ?_, fun h => ?_⟩
  · rw [h]; exact ⟨rfl, rfl⟩
  · rw [if_pos h]
    have sn := (sndB_iff hu).1 h
    have n1 := sn.len
    rw [beq_t, beq_f, ints_len]
    refine ⟨fun h0 => ?_, fun h0 => ?_⟩
    · rw [if_pos (by omega)]; exact ⟨rfl, rfl⟩
    · have hpos : 0 < l.length := by omega
      rw [if_neg (by omega)]
      have e1 : IntKind.wrap .i64 ((l.length : Int) - 1) = ((l.length : Nat) : Int) - 1 := w64 (by omega) (by omega)
      refine ⟨fun hs => ⟨_, writeByteF_ok 45, ?_⟩, fun hs => ?_⟩
      · rw [e1]
        have g := text_loop s l n1 sn.lim sn.norm [45] (by simp) (by intro x hx; simp at hx; omega) (fun r' h' => r' = .one (.fz (.str (bytesOf ([45] ++ tdig (val 1000000000 l).toNat)))) ∧ h' = []) ⟨rfl, rfl⟩ l.length (Nat.le_refl _) (by simp)
        have t0 : tdig (val 1000000000 (l.drop l.length)).toNat = [] := by
          rw [List.drop_length]; unfold tdig; simp [val, digs_zero]
        rw [t0, List.append_nil] at g
        rw [if_pos hs]
        exact g
      ·
        have hk : l.length - 1 < l.length := by omega
        have hx := sn.lim.rd (by omega) (l.length - 1)
        have hx0 := norm_rd sn.norm hpos
        have va := val_drop 1000000000 l (l.length - 1) hk
        obtain ⟨x, hX⟩ : ∃ x : Nat, rd l (l.length - 1) = x := ⟨(rd l (l.length - 1)).toNat, by omega⟩
        rw [hX] at hx hx0 va
        have hdn : l.drop (l.length - 1 + 1) = [] := List.drop_of_length_le (by omega)
        rw [hdn] at va
        have hval : (val 1000000000 (l.drop (l.length - 1))).toNat = x := by rw [va]; simp [val]
        have hne : [] ++ tdig (val 1000000000 (l.drop (l.length - 1))).toNat ≠ [] := by
          rw [hval, List.nil_append]
          intro e
          have : (digs 10 x).length = 0 := by rw [← tdig_len, e]; rfl
          have := (digs_nil (B := 10) (by omega) _).1 (List.length_eq_zero_iff.1 this)
          omega
        have g := text_loop s l n1 sn.lim sn.norm [] (by simp) Bytes.nil (fun r' h' => r' = .one (.fz (.str (bytesOf ([] ++ tdig (val 1000000000 l).toNat)))) ∧ h' = []) ⟨rfl, rfl⟩ (l.length - 1) (by omega) hne
        rw [hval, List.nil_append] at g
        have hd9 : (digs 10 x).length ≤ 9 := (digs_len (by omega) _ _).2 (by omega)
        have w2 := writeStringF_ok (itoaS x) (by rw [itoa_of x (by omega), bs_of (tdig_bytes x), tdig_len]; omega)
        rw [itoa_of x (by omega), bs_of (tdig_bytes x)] at w2
        have e2 : IntKind.wrap .i64 ((l.length : Int) - 1) = ((l.length - 1 : Nat) : Int) := by rw [e1]; omega
        have e3 : IntKind.wrap .i64 (((l.length - 1 : Nat) : Int) - 1) = ((l.length - 1 : Nat) : Int) - 1 := w64 (by omega) (by omega)
        have e4 : IntKind.wrap .i64 ((x : Nat) : Int) = (x : Int) := w64 (by omega) (by omega)
        rw [if_neg (by simp [hs])]
        refine num_Text_l1 ?_
        unfold num_Text_R1
        rw [ints_len, e2, e3]
        refine ⟨fun _ => ⟨by omega, ?_⟩, fun h => by simp at h⟩
        rw [Int.toNat_natCast, ex_rd, hX, e4]
        refine ⟨by omega, _, Itoa_fn x (by omega) (by omega), fun h => by simp at h, fun _ => ?_⟩
        rw [itoa_of x (by omega)]
        exact ⟨_, _, w2, g⟩
end Go.Proofs.YtflmioakfboanaaDoor.Ev
end
section
set_option linter.unusedVariables false
set_option maxRecDepth 100000
namespace Go.Proofs.YtflmioakfboanaaDoor.Ev
open Go
def law01_answers_lv : List Nat → Keep := lvOf []
def law01_answers_H (R : TV → List Ob → Prop)  : Prop :=
  (∃ b1 : Bool, (∃ es1 : List (List FV), ((Fn Tryd.prog 35 [(TV.one (AV.fz (FV.int .i64 (-1000000007))))] [] (TV.agg [(AV.fz (FV.bool b1)), (AV.fz (FV.sl 1 es1))]) []) ∧ (∃ s1 : ByteArray, ((Fn Tryd.prog 33 [(TV.agg [(AV.fz (FV.bool b1)), (AV.fz (FV.sl 1 es1))])] [] (TV.one (AV.fz (FV.str s1))) []) ∧ (R (TV.one (AV.fz (FV.bool ((ByteArray.toList s1) == (ByteArray.toList (ByteArray.mk #[45, 49, 48, 48, 48, 48, 48, 48, 48, 48, 55])))))) []))))))
theorem law01_answers_fn  {r : TV} {h : List Ob} (H : law01_answers_H (fun r' h' => r' = r ∧ h' = h) ) : Fn Tryd.prog 12 [] [] r h :=
  Fn.by_tr (M := (modeOf [] [])) (lv := law01_answers_lv) (own := none) (F := Tryd.f12) (by kernel_rfl) (by kernel_rfl) (by first | decide | simp) (by kernel_rfl) H
def law01_own_lv : List Nat → Keep := lvOf []
def law01_own_H (R : TV → List Ob → Prop) (x0 : Bool) (x1 : List (List FV)) : Prop :=
  (((((List.length ([] : List (List FV))) + (List.length x1)) * 4) ≤ 140737488355328) ∧ (R (TV.agg [(AV.fz (FV.bool x0)), (AV.fz (FV.sl 1 (([] : List (List FV)) ++ x1)))]) []))
theorem law01_own_fn (x0 : Bool) (x1 : List (List FV)) {r : TV} {h : List Ob} (H : law01_own_H (fun r' h' => r' = r ∧ h' = h) x0 x1) : Fn Tryd.prog 15 [(TV.agg [(AV.fz (FV.bool x0)), (AV.fz (FV.sl 1 x1))])] [] r h :=
  Fn.by_tr (M := (modeOf [] [])) (lv := law01_own_lv) (own := none) (F := Tryd.f15) (by kernel_rfl) (by kernel_rfl) (by first | decide | simp) (by kernel_rfl) H
end Go.Proofs.YtflmioakfboanaaDoor.Ev
end
section
set_option linter.unusedVariables false
set_option linter.unusedSimpArgs false
namespace Go.Proofs.YtflmioakfboanaaDoor.Ev
open Go
theorem Ty.inv_bool {P : Program} {t : TypeId} {fs : List FV} (h : Ty P t fs) (hu : P.underlying t = some .bool) : ∃ b, fs = [.bool b] := by
  cases h <;> simp_all
theorem Ty.inv_int {P : Program} {t : TypeId} {k : IntKind} {fs : List FV} (h : Ty P t fs) (hu : P.underlying t = some (.int k)) : ∃ n, fs = [.int k n] ∧ k.min ≤ n ∧ n ≤ k.max := by
  cases h <;> simp_all
theorem Ty.inv_sl {P : Program} {t e : TypeId} {fs : List FV} (h : Ty P t fs) (hu : P.underlying t = some (.slice e)) : ∃ es, fs = [.sl (P.cellsOf e) es] ∧ es.length * P.bytesOf e ≤ reachBytes ∧ ∀ x ∈ es, Ty P e x := by
  cases h <;> simp_all
theorem Ty.inv_struct {P : Program} {t : TypeId} {ds : Array Field} {fs : List FV} (h : Ty P t fs) (hu : P.underlying t = some (.struct ds)) : ∃ parts : List (List FV), fs = parts.flatten ∧ parts.length = ds.size ∧ ∀ (i : Nat) (f : Field) (x : List FV), ds[i]? = some f → parts[i]? = some x → Ty P f.type x := by
  cases h <;> simp_all
  exact ⟨_, rfl, ‹_›, ‹_›⟩
theorem Ty.inv_ints {P : Program} {t e : TypeId} {k : IntKind} {fs : List FV} (h : Ty P t fs) (hu : P.underlying t = some (.slice e)) (he : P.underlying e = some (.int k)) (hc : P.cellsOf e = 1) :
    ∃ l, fs = [.sl 1 (ints k l)] ∧ (∀ x ∈ l, k.min ≤ x ∧ x ≤ k.max) ∧ l.length * P.bytesOf e ≤ reachBytes := by
  obtain ⟨es, rfl, h1, h2⟩ := h.inv_sl hu
  have : ∃ l, es = ints k l ∧ ∀ x ∈ l, k.min ≤ x ∧ x ≤ k.max := by
    clear h1 h
    induction es with
    | nil => exact ⟨[], rfl, by simp⟩
    | cons x es ih =>
      obtain ⟨l, rfl, h3⟩ := ih fun y hy => h2 y (List.mem_cons_of_mem _ hy)
      obtain ⟨n, rfl, h4, h5⟩ := (h2 x List.mem_cons_self).inv_int he
      exact ⟨n :: l, by simp [ints], fun y hy => by
        rcases List.mem_cons.1 hy with rfl | hy
        · exact ⟨h4, h5⟩
        · exact h3 y hy⟩
  obtain ⟨l, rfl, h3⟩ := this
  exact ⟨l, by rw [hc], h3, by rwa [ints_len] at h1⟩
theorem two_parts {α : Type} {l : List α} (h : l.length = 2) : ∃ a b, l = [a, b] := by
  match l, h with
  | [a, b], _ => exact ⟨a, b, rfl⟩
theorem tyV_int {t : TypeId} {k : IntKind} {x : TV} (h : TyV Tryd.prog t x) (hu : Tryd.prog.underlying t = some (.int k)) : ∃ n, x = fzI k n ∧ k.min ≤ n ∧ n ≤ k.max := by
  rcases h with ⟨fs, rfl, h, ds, hd⟩ | ⟨f, rfl, h⟩
  · rw [hu] at hd; cases hd
  · obtain ⟨n, h, h1, h2⟩ := h.inv_int hu
    cases h
    exact ⟨n, rfl, h1, h2⟩
theorem ty_Int {fs : List FV} (h : Ty Tryd.prog 24 fs) : ∃ s l, fs = [.bool s, .sl 1 (ints .u32 l)] ∧ U32 l ∧ l.length * 4 ≤ reachBytes := by
  obtain ⟨parts, rfl, h1, h2⟩ := h.inv_struct Tryd.underlying24
  obtain ⟨a, b, rfl⟩ := two_parts h1
  obtain ⟨s, rfl⟩ := (h2 0 _ a rfl rfl).inv_bool Tryd.underlying4
  obtain ⟨l, rfl, h3, h4⟩ := (h2 1 _ b rfl rfl).inv_ints Tryd.underlying22 Tryd.underlying48 (by kernel_rfl)
  refine ⟨s, l, rfl, fun x hx => ?_, ?_⟩
  · have := h3 x hx
    simp [IntKind.min, IntKind.max, IntKind.signed, IntKind.bits] at this
    omega
  · have e : Tryd.prog.bytesOf 48 = 4 := by kernel_rfl
    rwa [e] at h4
theorem tyV_Int {x : TV} (h : TyV Tryd.prog 24 x) : ∃ s l, x = fzN s l ∧ U32 l ∧ l.length * 4 ≤ 140737488355328 := by
  rcases h with ⟨fs, rfl, h, _⟩ | ⟨f, rfl, h⟩
  · obtain ⟨s, l, rfl, h1, h2⟩ := ty_Int h
    exact ⟨s, l, rfl, h1, Nat.le_trans h2 (by decide)⟩
  · obtain ⟨s, l, h, _⟩ := ty_Int h
    simp at h
theorem answers_ok : Fn Tryd.prog 12 [] [] (fzB true) [] := by
  refine law01_answers_fn ?_
  unfold law01_answers_H
  have e1 : bigN (-1000000007) = true := rfl
  have e2 : bigL (-1000000007) = [7, 1] := by
    unfold bigL
    rw [show (-1000000007 : Int).natAbs = 1000000007 from rfl, digs_pos (by omega) (by omega), digs_pos (by omega) (by omega), show 1000000007 / 1000000000 / 1000000000 = 0 from rfl, digs_zero]
    rfl
  refine ⟨_, _, ofInt_ok _ (by omega) (by omega), _, text_ok _ _ ?_ ?_, ?_⟩
  · rw [e2]; intro x hx; simp at hx; omega
  · rw [e2]; simp
  · rw [e1, e2]
    have e3 : numT true [7, 1] = [45, 49, 48, 48, 48, 48, 48, 48, 48, 48, 55] := by
      have : sndB true [7, 1] = true := by decide
      unfold numT
      rw [if_pos this, if_neg (by decide)]
      have : (val 1000000000 [7, 1]).toNat = 1000000007 := by decide
      rw [this]
      unfold tdig
      have : digs 10 1000000007 = [7, 0, 0, 0, 0, 0, 0, 0, 0, 1] := by
        simp [digs_pos, digs_zero]
      rw [this]
      rfl
    rw [e3]
    exact ⟨by congr 4; decide +kernel, rfl⟩
theorem own_ok (s : Bool) (l : List Int) (hl : l.length * 4 ≤ 140737488355328) : Fn Tryd.prog 15 [fzN s l] [] (fzN s l) [] := by
  refine law01_own_fn _ _ ?_
  unfold law01_own_H
  rw [List.nil_append, ints_len]
  exact ⟨by simpa using hl, rfl, rfl⟩
end Go.Proofs.YtflmioakfboanaaDoor.Ev
end
section
set_option linter.unusedVariables false
set_option linter.unusedSimpArgs false
namespace Go.Proofs.YtflmioakfboanaaDoor.Ev
open Go
section
variable {x y z : Int} (hx : x.natAbs < 1000000000 ^ 64) (hy : y.natAbs < 1000000000 ^ 64)
include hx hy
end
theorem same_self (s : Bool) (l : List Int) (h : l.length ≤ 1000000) : Fn Tryd.prog 17 [fzN s l, fzN s l] [] (fzB true) [] := by
  have e := same_ok s s l l h
  rwa [decide_eq_true (show s = s ∧ l = l from ⟨rfl, rfl⟩)] at e
end Go.Proofs.YtflmioakfboanaaDoor.Ev
end
section
set_option linter.unusedVariables false
set_option linter.unusedSimpArgs false
namespace Go.Proofs.YtflmioakfboanaaDoor.Ev
open Go Go.RowKit
def errV (b : Bool) (v : Value) : Prop := if b = true then ∃ t u, v = .iface t u else v = .nilIface
theorem Fn.of_below_ie {P : Program} {f : FuncId} (xs : List FV) {vs : List Value} {n : Int} {b : Bool} (hx : xs.mapM bareV = some vs)
    (hc : ∀ w, Glob w → Calls P f vs.toArray w fun e w' => (∃ v, e = .returned (.tuple #[.int .i64 n, v]) ∧ errV b v) ∧ Below w.heap.size w w') : Fn P f (xs.map fun x => .one (.fz x)) [] (.tup [(false, [.fz (.int .i64 n)]), (false, [.fz (.ifc b)])]) [] := by
  intro ext w locs vals H hsz hrep
  have e : vals = vs.toArray := by
    have := args_bare xs vs vals.toList hx (by simpa using hsz) (fun i x h => by obtain ⟨v, h1, h2⟩ := hrep i x h; exact ⟨v, by simpa using h1, h2⟩)
    rw [← this]
  subst e
  refine (hc w H.glob).mono ?_
  rintro e w' ⟨⟨v, rfl, hv⟩, hb⟩
  refine ⟨.tuple #[.int .i64 n, v], locs, rfl, H.below hb, #[.int .i64 n, v], rfl, rfl, fun i b' cs hi => ?_⟩
  match i with
  | 0 =>
    cases hi
    refine ⟨.int .i64 n, rfl, [.int .i64 n], rfl, rfl, fun _ => rfl, fun j x hj => ?_⟩
    cases j with
    | zero => cases hj; exact ⟨_, rfl, .int _ _⟩
    | succ j => simp at hj
  | 1 =>
    cases hi
    refine ⟨v, rfl, [v], rfl, rfl, fun _ => rfl, fun j x hj => ?_⟩
    cases j with
    | zero =>
      cases hj
      refine ⟨v, rfl, ?_⟩
      cases b
      · have : v = .nilIface := hv
        subst this
        exact .ifcN
      · obtain ⟨t, u, rfl⟩ := hv
        exact .ifcS _ _
    | succ j => simp at hj
  | i + 2 => simp at hi
theorem tab_ifc {w : World} {g : Nat} (h : TabAt w (fun _ => True) g [.ifc true]) : ∃ t u, w.cell? ⟨g, 0, none⟩ = some (.iface t u) := by
  obtain ⟨c, t, z, h1, h2, h3⟩ := h
  obtain ⟨v, hv, hr⟩ := h3 0 _ rfl
  cases hr
  rename_i t' v'
  exact ⟨t', v', by simp [World.cell?, h1, hv]⟩
def atoiV (s : ByteArray) : Int := match Lib.atoiAll s.data.toList with
  | .ok v => v
  | .range => Lib.atoiSat s.data.toList
  | _ => 0
def atoiE (s : ByteArray) : Bool := match Lib.atoiAll s.data.toList with
  | .ok _ => false
  | _ => true
theorem Atoi_fn (s : ByteArray) (hs : s.size ≤ 281474976710656) : Fn Tryd.prog 55 [.one (.fz (.str s))] [] (.tup [(false, [.fz (.int .i64 (atoiV s))]), (false, [.fz (.ifc (atoiE s))])]) [] :=
  Fn.of_below_ie [.str s] rfl fun w hg => by
    unfold atoiV atoiE
    cases h : Lib.atoiAll s.data.toList
    case ok v =>
      refine (Tryd.strconv_Atoi_ok s (by omega) v h w).mono ?_
      rintro e w' ⟨rfl, hw⟩
      refine ⟨⟨_, rfl, rfl⟩, ?_⟩
      rcases hw with rfl | ⟨t, rfl⟩
      · exact Below.refl _ _
      · exact Lib.bytesWorld_below _ _ _
    case range =>
      have h1 := hg (1, [.ifc true]) (by simp [tabs])
      obtain ⟨t, u, h2⟩ := tab_ifc h1
      refine (Tryd.strconv_Atoi_range s hs h _ w h2 (.inr ⟨_, _, rfl⟩)).mono ?_
      rintro e w' ⟨N, rfl, _, _, hb⟩
      exact ⟨⟨_, rfl, _, _, rfl⟩, hb⟩
    all_goals
      have h1 := hg (0, [.ifc true]) (by simp [tabs])
      obtain ⟨t, u, h2⟩ := tab_ifc h1
      refine (Tryd.strconv_Atoi_syntax s hs h _ w h2 (.inr ⟨_, _, rfl⟩)).mono ?_
      rintro e w' ⟨N, rfl, _, _, hb⟩
      exact ⟨⟨_, rfl, _, _, rfl⟩, hb⟩
theorem TrimPrefix_fn (s p : ByteArray) : Fn Tryd.prog 63 [.one (.fz (.str s)), .one (.fz (.str p))] [] (.one (.fz (.str ⟨(Lib.trimPrefix s.data.toList p.data.toList).toArray⟩))) [] :=
  Fn.of_below [.str s, .str p] rfl rfl fun w hg => (Tryd.strings_TrimPrefix s p w).mono fun e w' ⟨h1, h2⟩ => ⟨h1, h2 ▸ Below.refl _ _⟩
theorem TrimLeft_fn (s : ByteArray) (c : UInt8) (hc : c.toNat < 128) : Fn Tryd.prog 65 [.one (.fz (.str s)), .one (.fz (.str ⟨#[c]⟩))] [] (.one (.fz (.str ⟨(Lib.trimLeftB s.data.toList c).toArray⟩))) [] :=
  Fn.of_below [.str s, .str ⟨#[c]⟩] rfl rfl fun w hg => (Tryd.strings_TrimLeft_one s c hc w).mono fun e w' ⟨h1, h2⟩ => ⟨h1, h2 ▸ Below.refl _ _⟩
theorem Trim_fn (s cs : ByteArray) (hs : s.size ≤ 9223372036854775807) (hcs : cs.size < 4294967281) (ha : cs.data.toList.all (fun b => decide (b.toNat < 128)) = true) :
    Fn Tryd.prog 64 [.one (.fz (.str s)), .one (.fz (.str cs))] [] (.one (.fz (.str ⟨(Lib.trimS s.data.toList cs.data.toList).toArray⟩))) [] :=
  Fn.of_below [.str s, .str cs] rfl rfl fun w hg => Any.strings_Trim_laid Tryd.lays160 (by kernel_rfl) s cs w hs hcs (ascii_of_all ha)
end Go.Proofs.YtflmioakfboanaaDoor.Ev
end
section
set_option linter.unusedVariables false
set_option maxRecDepth 100000
namespace Go.Proofs.YtflmioakfboanaaDoor.Ev
open Go
def num_Parse_lv : List Nat → Keep := lvOf [([0, 1, 0, 1, 1, 1, 1, 1, 1, 1, 1], ⟨244, 0, [], false⟩)]
def num_Parse_S0 (s4 : ByteArray) (minus : Bool) (end_ : Int) (o : List (List FV)) : St := (St.mk [TV.und, TV.und, (TV.one (AV.ptr 0 0 0 0)), TV.und, (TV.one (AV.fz (FV.str s4))), (TV.one (AV.fz (FV.bool minus))), (TV.one (AV.ofl 1 1)), (TV.one (AV.fz (FV.int .i64 end_))), TV.und, TV.und, TV.und, TV.und, TV.und, TV.und, TV.und, TV.und, TV.und, TV.und, TV.und, TV.und, TV.und, TV.und, TV.und, TV.und, TV.und, TV.und, TV.und, TV.und, TV.und, TV.und, TV.und, TV.und, TV.und, TV.und, TV.und, TV.und, TV.und, TV.und, TV.und, TV.und, TV.und, TV.und, TV.und, TV.und, TV.und, TV.und, TV.und, TV.und, TV.und, TV.und, TV.und, TV.und, TV.und, TV.und, TV.und, TV.und, TV.und, TV.und, TV.und, TV.und, TV.und, TV.und, TV.und, TV.und, TV.und] [(Ob.g 24 [(AV.fz (FV.bool false)), (AV.ofl 1 2)]), (Ob.f 0 1 o), (Ob.f 0 1 ([] : List (List FV)))])
def num_Parse_L0 (R : TV → List Ob → Prop) (s4 : ByteArray) (minus : Bool) (end_ : Int) (o : List (List FV)) : Prop := LoopAt Tryd.prog (modeOf [] []) num_Parse_lv Tryd.f36 none R [1, 1, 1, 1, 1, 1, 1, 1, 0, 1, 0] (num_Parse_S0 s4 minus end_ o)
def num_Parse_R0 (R : TV → List Ob → Prop) (s4 : ByteArray) (minus : Bool) (end_ : Int) (o : List (List FV)) : Prop :=
  ((((decide ((0 : Int) < end_)) = true) → ((((0 : Int) ≤ (if ((0 : Int) > (IntKind.wrap .i64 (end_ - 9))) then 0 else (IntKind.wrap .i64 (end_ - 9)))) ∧ (((if ((0 : Int) > (IntKind.wrap .i64 (end_ - 9))) then 0 else (IntKind.wrap .i64 (end_ - 9))) ≤ end_) ∧ (end_ ≤ (((ByteArray.size s4) : Nat) : Int)))) ∧ (∃ n6 : Int, (∃ b6 : Bool, ((Fn Tryd.prog 55 [(TV.one (AV.fz (FV.str (ByteArray.extract s4 (Int.toNat (if ((0 : Int) > (IntKind.wrap .i64 (end_ - 9))) then 0 else (IntKind.wrap .i64 (end_ - 9)))) (Int.toNat end_)))))] [] (TV.tup [(false, [(AV.fz (FV.int .i64 n6))]), (false, [(AV.fz (FV.ifc b6))])]) []) ∧ (((((List.length o) + (List.length [[(FV.int .u32 (IntKind.wrap .u32 n6))]])) * 4) ≤ 140737488355328) ∧ (num_Parse_L0 R s4 minus (IntKind.wrap .i64 (end_ - 9)) (o ++ [[(FV.int .u32 (IntKind.wrap .u32 n6))]])))))))) ∧ (((decide ((0 : Int) < end_)) = false) → (∃ b7 : Bool, (∃ es3 : List (List FV), (∃ n7 : Int, ((Fn Tryd.prog 39 [(TV.one (AV.fz (FV.bool minus))), (TV.one (AV.fz (FV.sl 1 o)))] [] (TV.tup [(true, [(AV.fz (FV.bool b7)), (AV.fz (FV.sl 1 es3))]), (false, [(AV.fz (FV.int .i64 n7))])]) []) ∧ (R (TV.tup [(true, [(AV.fz (FV.bool b7)), (AV.fz (FV.sl 1 es3))]), (false, [(AV.fz (FV.bool (n7 == 0)))])]) [])))))))
theorem num_Parse_l0 {R : TV → List Ob → Prop} {s4 : ByteArray} {minus : Bool} {end_ : Int} {o : List (List FV)} (h : num_Parse_R0 R s4 minus end_ o) : num_Parse_L0 R s4 minus end_ o :=
  LoopAt.by_tr (by kernel_rfl) (by kernel_rfl) h
def num_Parse_H (R : TV → List Ob → Prop) (s : ByteArray) : Prop :=
  (∃ s7 : ByteArray, ((Fn Tryd.prog 63 [(TV.one (AV.fz (FV.str s))), (TV.one (AV.fz (FV.str (ByteArray.mk #[45]))))] [] (TV.one (AV.fz (FV.str s7))) []) ∧ ((((Bool.not (Bool.not ((ByteArray.toList s7) == (ByteArray.toList s)))) = true) → (∃ s8 : ByteArray, ((Fn Tryd.prog 63 [(TV.one (AV.fz (FV.str s))), (TV.one (AV.fz (FV.str (ByteArray.mk #[43]))))] [] (TV.one (AV.fz (FV.str s8))) []) ∧ (((((ByteArray.toList s8) == (ByteArray.toList (ByteArray.mk #[]))) = true) → (R (TV.tup [(true, [(AV.fz (FV.bool false)), (AV.fz (FV.sl 1 ([] : List (List FV))))]), (false, [(AV.fz (FV.bool false))])]) [])) ∧ ((((ByteArray.toList s8) == (ByteArray.toList (ByteArray.mk #[]))) = false) → (∃ s9 : ByteArray, ((Fn Tryd.prog 64 [(TV.one (AV.fz (FV.str s8))), (TV.one (AV.fz (FV.str (ByteArray.mk #[48, 49, 50, 51, 52, 53, 54, 55, 56, 57]))))] [] (TV.one (AV.fz (FV.str s9))) []) ∧ ((((Bool.not ((ByteArray.toList s9) == (ByteArray.toList (ByteArray.mk #[])))) = true) → (R (TV.tup [(true, [(AV.fz (FV.bool false)), (AV.fz (FV.sl 1 ([] : List (List FV))))]), (false, [(AV.fz (FV.bool false))])]) [])) ∧ (((Bool.not ((ByteArray.toList s9) == (ByteArray.toList (ByteArray.mk #[])))) = false) → (∃ s10 : ByteArray, ((Fn Tryd.prog 65 [(TV.one (AV.fz (FV.str s8))), (TV.one (AV.fz (FV.str (ByteArray.mk #[48]))))] [] (TV.one (AV.fz (FV.str s10))) []) ∧ ((((decide ((576 : Int) < (((ByteArray.size s10) : Nat) : Int))) = true) → (R (TV.tup [(true, [(AV.fz (FV.bool false)), (AV.fz (FV.sl 1 ([] : List (List FV))))]), (false, [(AV.fz (FV.bool false))])]) [])) ∧ (((decide ((576 : Int) < (((ByteArray.size s10) : Nat) : Int))) = false) → (num_Parse_L0 R s10 (Bool.not ((ByteArray.toList s7) == (ByteArray.toList s))) (((ByteArray.size s10) : Nat) : Int) ([] : List (List FV)))))))))))))))) ∧ (((Bool.not (Bool.not ((ByteArray.toList s7) == (ByteArray.toList s)))) = false) → (((((ByteArray.toList s7) == (ByteArray.toList (ByteArray.mk #[]))) = true) → (R (TV.tup [(true, [(AV.fz (FV.bool false)), (AV.fz (FV.sl 1 ([] : List (List FV))))]), (false, [(AV.fz (FV.bool false))])]) [])) ∧ ((((ByteArray.toList s7) == (ByteArray.toList (ByteArray.mk #[]))) = false) → (∃ s11 : ByteArray, ((Fn Tryd.prog 64 [(TV.one (AV.fz (FV.str s7))), (TV.one (AV.fz (FV.str (ByteArray.mk #[48, 49, 50, 51, 52, 53, 54, 55, 56, 57]))))] [] (TV.one (AV.fz (FV.str s11))) []) ∧ ((((Bool.not ((ByteArray.toList s11) == (ByteArray.toList (ByteArray.mk #[])))) = true) → (R (TV.tup [(true, [(AV.fz (FV.bool false)), (AV.fz (FV.sl 1 ([] : List (List FV))))]), (false, [(AV.fz (FV.bool false))])]) [])) ∧ (((Bool.not ((ByteArray.toList s11) == (ByteArray.toList (ByteArray.mk #[])))) = false) → (∃ s12 : ByteArray, ((Fn Tryd.prog 65 [(TV.one (AV.fz (FV.str s7))), (TV.one (AV.fz (FV.str (ByteArray.mk #[48]))))] [] (TV.one (AV.fz (FV.str s12))) []) ∧ ((((decide ((576 : Int) < (((ByteArray.size s12) : Nat) : Int))) = true) → (R (TV.tup [(true, [(AV.fz (FV.bool false)), (AV.fz (FV.sl 1 ([] : List (List FV))))]), (false, [(AV.fz (FV.bool false))])]) [])) ∧ (((decide ((576 : Int) < (((ByteArray.size s12) : Nat) : Int))) = false) → (num_Parse_L0 R s12 (Bool.not ((ByteArray.toList s7) == (ByteArray.toList s))) (((ByteArray.size s12) : Nat) : Int) ([] : List (List FV)))))))))))))))))
theorem num_Parse_fn (s : ByteArray) {r : TV} {h : List Ob} (H : num_Parse_H (fun r' h' => r' = r ∧ h' = h) s) : Fn Tryd.prog 36 [(TV.one (AV.fz (FV.str s)))] [] r h :=
  Fn.by_tr (M := (modeOf [] [])) (lv := num_Parse_lv) (own := none) (F := Tryd.f36) (by kernel_rfl) (by kernel_rfl) (by first | decide | simp) (by kernel_rfl) H
end Go.Proofs.YtflmioakfboanaaDoor.Ev
end
section
set_option linter.unusedVariables false
set_option linter.unusedSimpArgs false
namespace Go.Proofs.YtflmioakfboanaaDoor.Ev
open Go
def bv (acc : Int) (ds : List Int) : Int := ds.foldl (fun a d => a * 10 + d) acc
def ub (ds : List Int) : List UInt8 := ds.map fun d => UInt8.ofNat (48 + d).toNat
theorem bv_snoc (acc : Int) (ds : List Int) (d : Int) : bv acc (ds ++ [d]) = bv acc ds * 10 + d := by simp [bv]
theorem bv_val : ∀ l : List Int, bv 0 l.reverse = val 10 l
  | [] => rfl
  | d :: l => by rw [List.reverse_cons, bv_snoc, bv_val l]; show _ = d + 10 * val 10 l; omega
theorem bv_ge : ∀ (ds : List Int) (acc : Int), 0 ≤ acc → Lim 10 ds → acc ≤ bv acc ds
  | [], acc, _, _ => Int.le_refl _
  | d :: ds, acc, h0, h => by
    have hd := h d List.mem_cons_self
    have := bv_ge ds (acc * 10 + d) (by omega) (fun x hx => h x (List.mem_cons_of_mem _ hx))
    show acc ≤ bv (acc * 10 + d) ds
    omega
theorem ub_digit {d : Int} (h0 : 0 ≤ d) (h1 : d < 10) : (UInt8.ofNat (48 + d).toNat).toNat = 48 + d.toNat := by
  rw [UInt8.toNat_ofNat']; omega
theorem parse_ub : ∀ (ds : List Int) (acc : Nat), acc < 18446744073709551616 → Lim 10 ds → Lib.parseUint10 acc (ub ds) = if bv acc ds < 18446744073709551616 then .ok (bv acc ds).toNat else .range
  | [], acc, ha, _ => by
    show Lib.NumEnd.ok acc = _
    have : bv acc [] = acc := rfl
    rw [this, if_pos (by omega)]; simp
  | d :: ds, acc, ha, h => by
    have hd := h d List.mem_cons_self
    have ht : Lim 10 ds := fun x hx => h x (List.mem_cons_of_mem _ hx)
    have e := ub_digit hd.1 hd.2
    show Lib.parseUint10 acc (UInt8.ofNat (48 + d).toNat :: ub ds) = _
    have hb : bv acc (d :: ds) = bv (acc * 10 + d) ds := rfl
    have hg := bv_ge ds (acc * 10 + d) (by omega) ht
    unfold Lib.parseUint10
    rw [e, if_pos (by omega), hb]
    have e2 : 48 + d.toNat - 48 = d.toNat := by omega
    rw [e2]
    by_cases h1 : 1844674407370955162 ≤ acc
    · rw [if_pos h1, if_neg (by omega)]
    · rw [if_neg h1]
      by_cases h2 : 18446744073709551616 ≤ acc * 10 + d.toNat
      · rw [if_pos h2, if_neg (by omega)]
      · rw [if_neg h2, parse_ub ds _ (by omega) ht]
        have : (((acc * 10 + d.toNat : Nat)) : Int) = acc * 10 + d := by omega
        rw [this]
theorem data_of (l : List Int) : (bytesOf l).data.toList = l.map fun n => UInt8.ofNat n.toNat := by simp [bytesOf]
end Go.Proofs.YtflmioakfboanaaDoor.Ev
end
section
set_option linter.unusedVariables false
set_option linter.unusedSimpArgs false
namespace Go.Proofs.YtflmioakfboanaaDoor.Ev
open Go
theorem ba_ext {s t : ByteArray} (h : s.data.toList = t.data.toList) : s = t := by
  cases s; cases t
  congr
  exact Array.toList_inj.1 h
def tb (ds : List Int) : ByteArray := ⟨(ub ds).toArray⟩
theorem tb_size (ds : List Int) : (tb ds).size = ds.length := by
  show (tb ds).data.size = _
  simp [tb, ub]
theorem tb_extract (ds : List Int) (a b : Nat) : (tb ds).extract a b = tb ((ds.drop a).take (b - a)) := by
  refine ba_ext ?_
  have h := Lib.extract_toList (tb ds) a b
  rw [ByteArray.toList_eq] at h
  rw [h]
  simp [tb, ub]
theorem app_of (l m : List Int) : bytesOf l ++ bytesOf m = bytesOf (l ++ m) := by
  refine ba_ext ?_
  simp [bytesOf, ByteArray.data_append]
theorem extract_of (l : List Int) (a b : Nat) : (bytesOf l).extract a b = bytesOf ((l.drop a).take (b - a)) := by
  refine ba_ext ?_
  have h := Lib.extract_toList (bytesOf l) a b
  rw [ByteArray.toList_eq] at h
  rw [h]
  simp [bytesOf]
theorem bv_app (l m : List Int) (acc : Int) : bv acc (l ++ m) = bv (bv acc l) m := by simp [bv]
theorem bv_acc : ∀ (m : List Int) (acc : Int), bv acc m = acc * 10 ^ m.length + bv 0 m
  | [], acc => by show acc = acc * 10 ^ 0 + 0; rw [Int.pow_zero]; omega
  | d :: m, acc => by
    show bv (acc * 10 + d) m = _
    rw [bv_acc m (acc * 10 + d)]
    have h : bv 0 (d :: m) = bv (0 * 10 + d) m := rfl
    rw [h, bv_acc m (0 * 10 + d), List.length_cons, Int.pow_succ]
    grind
theorem bv_join (l m : List Int) : bv 0 (l ++ m) = bv 0 l * 10 ^ m.length + bv 0 m := by rw [bv_app, bv_acc]
theorem bv_zeros : ∀ n : Nat, bv 0 (List.replicate n 0) = 0
  | 0 => rfl
  | n + 1 => bv_zeros n
theorem bv_skip (n : Nat) (l : List Int) : bv 0 (List.replicate n 0 ++ l) = bv 0 l := by rw [bv_app, bv_zeros]
theorem bv_nonneg (l : List Int) (h : Lim 10 l) : 0 ≤ bv 0 l := bv_ge l 0 (by omega) h
theorem bv_lt (l : List Int) (h : Lim 10 l) : bv 0 l < 10 ^ l.length := by
  have h1 := bv_val l.reverse
  rw [List.reverse_reverse] at h1
  have h2 := val_lt (B := 10) (by omega) (l := l.reverse) (fun x hx => h x (by simpa using hx))
  rw [List.length_reverse] at h2
  omega
theorem bv_cut : ∀ l : List Int, bv 0 (l.dropWhile (· == 0)) = bv 0 l
  | [] => rfl
  | d :: l => by
    rw [List.dropWhile_cons]
    split
    · rename_i h
      have : d = 0 := by simpa using h
      subst this
      exact bv_cut l
    · rfl
theorem cut_norm (l : List Int) : Norm (l.dropWhile (· == 0)).reverse := by
  intro hne
  rw [List.getLast_reverse]
  have h1 : l.dropWhile (· == 0) ≠ [] := by simpa using hne
  have := List.head_dropWhile_not (p := fun x : Int => x == 0) (l := l) h1
  simpa using this
theorem cut_lim {l : List Int} (h : Lim 10 l) : Lim 10 (l.dropWhile (· == 0)) := fun x hx => h x ((List.dropWhile_sublist _).subset hx)
theorem cut_digs {l : List Int} (h : Lim 10 l) : (digs 10 (bv 0 l).toNat).length = (l.dropWhile (· == 0)).length := by
  have h1 := bv_val (l.dropWhile (· == 0)).reverse
  rw [List.reverse_reverse, bv_cut] at h1
  have hL : Lim 10 (l.dropWhile (· == 0)).reverse := fun x hx => cut_lim h x (by simpa using hx)
  rw [h1, digsT_eq hL (cut_norm l), List.length_reverse]
theorem atoi_short {ds : List Int} (hne : ds ≠ []) (h : Lim 10 ds) (hl : ds.length ≤ 9) : Lib.atoiAll (ub ds) = .ok (bv 0 ds) := by
  have h0 := bv_nonneg ds h
  have h1 := bv_lt ds h
  have h2 := pow_mono (B := 10) (by omega) hl
  have e9 : (10 : Int) ^ 9 = 1000000000 := by decide
  match ds, hne with
  | d :: ds, _ =>
    have hd := h d List.mem_cons_self
    have e := ub_digit hd.1 hd.2
    have hp := parse_ub (d :: ds) 0 (by omega) h
    rw [show ((0 : Nat) : Int) = 0 from rfl] at hp
    have hm : Lib.parseMag (ub (d :: ds)) = .ok (bv 0 (d :: ds)).toNat := by
      unfold Lib.parseMag
      rw [if_neg (by simp [ub]), hp, if_pos (by omega)]
    rw [show ub (d :: ds) = UInt8.ofNat (48 + d).toNat :: ub ds from rfl] at hm ⊢
    rw [Lib.atoiAll_plain _ _ (by rw [e]; omega) (by rw [e]; omega), hm]
    generalize bv 0 (d :: ds) = v at *
    show (if 9223372036854775808 ≤ v.toNat then Lib.NumEnd.range else .ok ((v.toNat : Nat) : Int)) = _
    rw [if_neg (by omega), Int.toNat_of_nonneg h0]
theorem ring_parse (p B L x : Int) : p * (L * B + x) = p * x + p * B * L := by grind
theorem parse_loop (m : Bool) (D : List Int) (hD : Lim 10 D) (hn : D.length ≤ 576) (R : TV → List Ob → Prop) (z : Int) (hz : z = if m = true then - bv 0 D else bv 0 D)
    (hR : R (.tup [(true, [.fz (.bool (outS z)), .fz (.sl 1 (ints .u32 (outL z)))]), (false, [.fz (.bool (outE z == 0))])]) []) :
    ∀ (k e : Nat) (ei : Int) (o : List Int), e ≤ k → e ≤ D.length → (ei = e ∨ (e = 0 ∧ -9 ≤ ei ∧ ei ≤ 0)) → o.length + e ≤ D.length → Lim 1000000000 o → val 1000000000 o + 1000000000 ^ o.length * bv 0 (D.take e) = bv 0 D →
      num_Parse_L0 R (tb D) m ei (ints .u32 o)
  | k, e, ei, o, hk, he, hei, hlen, hL, hv => by
    refine num_Parse_l0 ?_
    unfold num_Parse_R0
    simp only [dec_t, dec_f, ints_snoc, ints_len, ints_one]
    refine ⟨fun h => ?_, fun h => ?_⟩
    · have e1 : ei = e := by omega
      subst e1
      have e2 : IntKind.wrap .i64 ((e : Int) - 9) = (e : Int) - 9 := w64 (by omega) (by omega)
      have e3 : (if (0 : Int) > (e : Int) - 9 then 0 else (e : Int) - 9) = ((e - 9 : Nat) : Int) := by split <;> omega
      rw [e2, e3, Int.toNat_natCast, Int.toNat_natCast, tb_extract, tb_size]
      have hLc : Lim 10 ((D.drop (e - 9)).take (e - (e - 9))) := (hD.drop _).take _
      have hlc : ((D.drop (e - 9)).take (e - (e - 9))).length = e - (e - 9) := by rw [List.length_take, List.length_drop]; omega
      have hne : (D.drop (e - 9)).take (e - (e - 9)) ≠ [] := fun h0 => by rw [h0] at hlc; simp at hlc; omega
      have hsplit : D.take e = D.take (e - 9) ++ (D.drop (e - 9)).take (e - (e - 9)) := by
        rw [← List.take_add]; congr 1; omega
      have hb0 := bv_nonneg _ hLc
      have hb1 := bv_lt _ hLc
      have hb2 := pow_mono (B := 10) (by omega) (show ((D.drop (e - 9)).take (e - (e - 9))).length ≤ 9 by omega)
      have e9 : (10 : Int) ^ 9 = 1000000000 := by decide
      have ha := atoi_short hne hLc (by omega)
      have hj : bv 0 (D.take e) = bv 0 (D.take (e - 9)) * 1000000000 + bv 0 ((D.drop (e - 9)).take (e - (e - 9))) := by
        rw [hsplit, bv_join, hlc]
        by_cases h9 : 9 ≤ e
        · rw [show e - (e - 9) = 9 by omega, e9]
        · rw [show e - 9 = 0 by omega, List.take_zero]
          show 0 * _ + _ = 0 * _ + _
          omega
      rw [hj] at hv
      generalize (D.drop (e - 9)).take (e - (e - 9)) = c at *
      have hA := Atoi_fn (tb c) (by rw [tb_size]; omega)
      have hav : atoiV (tb c) = bv 0 c := by
        unfold atoiV
        rw [show (tb c).data.toList = ub c from by simp [tb], ha]
      rw [hav] at hA
      refine ⟨⟨by omega, by omega, by omega⟩, _, _, hA, ?_, ?_⟩
      · simp only [List.length_cons, List.length_nil]; omega
      · rw [wu32 (by omega) (by omega), ints_app]
        match k, hk with
        | 0, hk => omega
        | k + 1, hk =>
          refine parse_loop m D hD hn R z hz hR k (e - 9) ((e : Int) - 9) (o ++ [bv 0 c]) (by omega) (by omega) (by omega) (by simp; omega) (hL.snoc hb0 (by omega)) ?_
          rw [val_snoc, List.length_append, List.length_singleton, Int.pow_succ, ← hv, ring_parse]
          omega
    · have e0 : e = 0 := by omega
      subst e0
      rw [List.take_zero, show bv 0 [] = 0 from rfl, Int.mul_zero, Int.add_zero] at hv
      have hz2 : sv m o = z := by rw [hz, ← hv]; rfl
      have := of_ok m o (by omega) hL
      rw [hz2] at this
      exact ⟨_, _, _, this, hR⟩
def okX (X : List Int) : Bool := decide (X ≠ []) && X.all fun c => decide (48 ≤ c ∧ c ≤ 57)
def vX (X : List Int) : Int := bv 0 (X.map (· - 48))
def ptS (m : Bool) (X : List Int) : Bool := if okX X = true then mkS m (vX X) else false
def ptL (X : List Int) : List Int := if okX X = true then mkL (vX X) else []
def ptB (X : List Int) : Bool := if okX X = true then mkB (vX X) else false
abbrev ptT (m : Bool) (X : List Int) : TV := .tup [(true, [.fz (.bool (ptS m X)), .fz (.sl 1 (ints .u32 (ptL X)))]), (false, [.fz (.bool (ptB X))])]
abbrev ptBad : TV := .tup [(true, [.fz (.bool false), .fz (.sl 1 ([] : List (List FV)))]), (false, [.fz (.bool false)])]
theorem ptT_bad {m : Bool} {X : List Int} (h : okX X = false) : ptT m X = ptBad := by
  unfold ptT ptS ptL ptB; rw [h]; rfl
theorem ptT_large {m : Bool} {X : List Int} (h : mkB (vX X) = false) : ptT m X = ptBad := by
  have h1 : 576 < (digs 10 (vX X).toNat).length := by
    unfold mkB at h
    split at h
    · assumption
    · cases h
  unfold ptT ptS ptL ptB mkS mkL mkB
  rw [if_pos h1, if_pos h1, if_pos h1]
  cases okX X <;> rfl
theorem pt_dig {X : List Int} (h : X.all (fun c => decide (48 ≤ c ∧ c ≤ 57)) = true) : Lim 10 (X.map (· - 48)) ∧ (bytesOf X).data.toList = ub (X.map (· - 48)) := by
  rw [List.all_eq_true] at h
  constructor
  · intro x hx
    obtain ⟨c, hc, rfl⟩ := List.mem_map.1 hx
    have := h c hc
    simp only [decide_eq_true_eq] at this
    omega
  · rw [data_of, ub, List.map_map]
    refine List.map_congr_left fun c hc => ?_
    show UInt8.ofNat c.toNat = UInt8.ofNat (48 + (c - 48)).toNat
    congr 2
    omega
theorem dw_nil (p : UInt8 → Bool) : ∀ l : List UInt8, l.dropWhile p = [] ↔ ∀ x ∈ l, p x = true
  | [] => by simp
  | x :: l => by
    rw [List.dropWhile_cons]
    by_cases h : p x = true
    · rw [if_pos h, dw_nil p l]; simp [h]
    · rw [if_neg h]; simp [h]
theorem trim_nil (p : UInt8 → Bool) (l : List UInt8) : ((l.reverse.dropWhile p).reverse.dropWhile p = []) ↔ l.all p = true := by
  rw [dw_nil, List.all_eq_true]
  constructor
  · intro h
    have h2 : l.reverse.dropWhile p = [] := by
      by_cases hne : l.reverse.dropWhile p = []
      · exact hne
      · have := List.head_dropWhile_not (p := p) (l := l.reverse) hne
        have h3 := h _ (List.mem_reverse.2 (List.head_mem hne))
        rw [this] at h3; cases h3
    rw [dw_nil] at h2
    exact fun x hx => h2 x (by simpa using hx)
  · intro h x hx
    exact h x (by simpa using (List.dropWhile_sublist _).subset (List.mem_reverse.1 hx))
theorem ten_has (c : UInt8) : ([48, 49, 50, 51, 52, 53, 54, 55, 56, 57] : List UInt8).contains c = decide (48 ≤ c.toNat ∧ c.toNat ≤ 57) := by
  rw [Bool.eq_iff_iff]
  simp [← UInt8.toNat_inj]
  omega
theorem all_map {X : List Int} (hX : Bytes X) : (X.map fun n => UInt8.ofNat n.toNat).all (([48, 49, 50, 51, 52, 53, 54, 55, 56, 57] : List UInt8).contains ·) = X.all fun c => decide (48 ≤ c ∧ c ≤ 57) := by
  rw [Bool.eq_iff_iff, List.all_map, List.all_eq_true, List.all_eq_true]
  refine forall_congr' fun x => ⟨fun h hx => ?_, fun h hx => ?_⟩
  all_goals
    have h1 := h hx
    have h2 := hX x hx
    have h3 := u8_back h2.1 h2.2
  · simp only [Function.comp_apply, ten_has, decide_eq_true_eq] at h1 ⊢
    omega
  · simp only [Function.comp_apply, ten_has, decide_eq_true_eq] at h1 ⊢
    omega
theorem trim_test {X : List Int} (hX : Bytes X) : ((ByteArray.toList ⟨(Lib.trimS (bytesOf X).data.toList (ByteArray.mk #[48, 49, 50, 51, 52, 53, 54, 55, 56, 57]).data.toList).toArray⟩) == ByteArray.toList (ByteArray.mk #[])) = X.all fun c => decide (48 ≤ c ∧ c ≤ 57) := by
  rw [ByteArray.toList_eq, ByteArray.toList_eq, ← all_map hX, data_of]
  generalize X.map (fun n => UInt8.ofNat n.toNat) = l
  rw [Bool.eq_iff_iff, ← trim_nil, beq_iff_eq]
  rfl
theorem cutB : ∀ (D : List Int), Lim 10 D → Lib.trimLeftB (ub D) 48 = ub (D.dropWhile (· == 0))
  | [], _ => rfl
  | d :: D, h => by
    have hd := h d List.mem_cons_self
    have e := ub_digit hd.1 hd.2
    have ih := cutB D (fun x hx => h x (List.mem_cons_of_mem _ hx))
    show List.dropWhile _ (UInt8.ofNat (48 + d).toNat :: ub D) = ub (List.dropWhile _ (d :: D))
    rw [List.dropWhile_cons, List.dropWhile_cons]
    by_cases h0 : d = 0
    · subst h0
      exact ih
    · have : (UInt8.ofNat (48 + d).toNat == 48) = false := by
        rw [beq_eq_false_iff_ne, ne_eq, ← UInt8.toNat_inj, e]
        show ¬ 48 + d.toNat = 48
        omega
      rw [this, show (d == 0) = false by simpa using h0]
      rfl
theorem parse_tail (m : Bool) (X : List Int) (hX : Bytes X) (hlen : X.length ≤ 100000) (R : TV → List Ob → Prop) (hR : R (ptT m X) []) :
    ((ByteArray.toList (bytesOf X) == ByteArray.toList (ByteArray.mk #[])) = true → R ptBad []) ∧
    ((ByteArray.toList (bytesOf X) == ByteArray.toList (ByteArray.mk #[])) = false →
      ∃ s9 : ByteArray, Fn Tryd.prog 64 [.one (.fz (.str (bytesOf X))), .one (.fz (.str (ByteArray.mk #[48, 49, 50, 51, 52, 53, 54, 55, 56, 57])))] [] (.one (.fz (.str s9))) [] ∧
        ((Bool.not (ByteArray.toList s9 == ByteArray.toList (ByteArray.mk #[]))) = true → R ptBad []) ∧
        ((Bool.not (ByteArray.toList s9 == ByteArray.toList (ByteArray.mk #[]))) = false →
          ∃ s10 : ByteArray, Fn Tryd.prog 65 [.one (.fz (.str (bytesOf X))), .one (.fz (.str (ByteArray.mk #[48])))] [] (.one (.fz (.str s10))) [] ∧
            (decide ((576 : Int) < ((ByteArray.size s10 : Nat) : Int)) = true → R ptBad []) ∧
            (decide ((576 : Int) < ((ByteArray.size s10 : Nat) : Int)) = false → num_Parse_L0 R s10 m ((ByteArray.size s10 : Nat) : Int) ([] : List (List FV))))) := by
  have e0 : (ByteArray.toList (bytesOf X) == ByteArray.toList (ByteArray.mk #[])) = decide (X = []) := eq_bytes (m := []) hX Bytes.nil
  rw [e0, dec_t, dec_f]
  refine ⟨fun h => ?_, fun hne => ⟨_, Trim_fn (bytesOf X) _ (by rw [size_of]; omega) (by decide) (by decide +kernel), ?_⟩⟩
  · subst h
    rw [ptT_bad rfl] at hR; exact hR
  · rw [trim_test hX, not_t, not_f]
    refine ⟨fun h => ?_, fun h => ⟨_, TrimLeft_fn (bytesOf X) 48 (by decide), ?_⟩⟩
    · rw [ptT_bad (by unfold okX; rw [h, Bool.and_false])] at hR; exact hR
    · obtain ⟨hL, hd⟩ := pt_dig h
      have hok : okX X = true := by unfold okX; rw [h]; simpa using hne
      rw [hd, cutB _ hL]
      have hsz := tb_size ((X.map (· - 48)).dropWhile (· == 0))
      unfold tb at hsz
      have hc := cut_digs hL
      have hv0 := bv_nonneg _ hL
      have hcut := bv_cut (X.map (· - 48))
      rw [hsz, dec_t, dec_f]
      refine ⟨fun hl => ?_, fun hl => ?_⟩
      · have hb : mkB (vX X) = false := by
          unfold mkB vX
          rw [if_pos (by omega)]
        rw [ptT_large hb] at hR; exact hR
      · have hb : mkB (vX X) = true := by
          unfold mkB vX
          rw [if_neg (by omega)]
        have hv0' : 0 ≤ vX X := hv0
        obtain ⟨h1, h2, h3⟩ := (mk_out m (vX X) hv0').1 hb
        refine parse_loop m _ (cut_lim hL) (by omega) R (if m = true then - vX X else vX X) (by rw [hcut]; rfl) ?_ _ _ _ [] (Nat.le_refl _) (Nat.le_refl _) (.inl rfl) (by simp) (Lim.nil _) ?_
        · rw [h1, h2, h3]
          unfold ptT ptS ptL ptB at hR
          rw [if_pos hok, if_pos hok, if_pos hok, hb] at hR
          exact hR
        · rw [List.take_length]
          show 0 + 1000000000 ^ 0 * _ = _
          rw [Int.pow_zero]; omega
def pNeg (T : List Int) : Bool := decide (T.head? = some 45)
def pRest (T : List Int) : List Int := if T.head? = some 45 ∨ T.head? = some 43 then T.tail else T
theorem trimP (T : List Int) (hT : Bytes T) (c : Nat) (hc : c < 256) : (⟨(Lib.trimPrefix (bytesOf T).data.toList [UInt8.ofNat c]).toArray⟩ : ByteArray) = bytesOf (if T.head? = some (c : Int) then T.tail else T) := by
  refine ba_ext ?_
  rw [data_of, data_of]
  unfold Lib.trimPrefix
  cases T with
  | nil => rfl
  | cons x T =>
    have hx := hT x List.mem_cons_self
    have h3 := u8_back hx.1 hx.2
    have hcc : (UInt8.ofNat c).toNat = c := by rw [UInt8.toNat_ofNat']; omega
    have : Lib.hasPrefix ((x :: T).map fun n => UInt8.ofNat n.toNat) [UInt8.ofNat c] = decide (x = (c : Int)) := by
      unfold Lib.hasPrefix
      rw [Bool.eq_iff_iff]
      simp [← UInt8.toNat_inj]
      omega
    rw [this]
    by_cases h : x = (c : Int)
    · simp [h]
    · simp [h]
theorem parse_ok (T : List Int) (hT : Bytes T) (hlen : T.length ≤ 100000) : Fn Tryd.prog 36 [.one (.fz (.str (bytesOf T)))] [] (ptT (pNeg T) (pRest T)) [] := by
  refine num_Parse_fn _ ?_
  unfold num_Parse_H
  have hp : ∀ c : Nat, c < 256 → Bytes (if T.head? = some (c : Int) then T.tail else T) := fun c _ => by
    split
    · exact fun x hx => hT x (List.mem_of_mem_tail hx)
    · exact hT
  have f1 := TrimPrefix_fn (bytesOf T) (ByteArray.mk #[45])
  rw [show (ByteArray.mk #[45]).data.toList = [UInt8.ofNat 45] from rfl, trimP T hT 45 (by omega)] at f1
  refine ⟨_, f1, ?_⟩
  rw [eq_bytes (hp 45 (by omega)) hT]
  by_cases h : T.head? = some 45
  · have hT1 : (if T.head? = some ((45 : Nat) : Int) then T.tail else T) = T.tail := if_pos h
    have hne : ¬ T.tail = T := by
      intro h2
      cases T with
      | nil => cases h
      | cons x T =>
        have := congrArg List.length h2
        simp at this
    rw [hT1, decide_eq_false hne]
    have e1 : pNeg T = true := decide_eq_true h
    have e2 : pRest T = T.tail := if_pos (.inl h)
    rw [e1, e2]
    refine ⟨fun h => (by cases h), fun _ => ?_⟩
    exact parse_tail true T.tail (fun x hx => hT x (List.mem_of_mem_tail hx)) (by rw [List.length_tail]; omega) (fun r' h' => r' = ptT true T.tail ∧ h' = []) ⟨rfl, rfl⟩
  · have hT1 : (if T.head? = some ((45 : Nat) : Int) then T.tail else T) = T := if_neg h
    rw [hT1, decide_eq_true rfl]
    refine ⟨fun _ => ?_, fun h => (by cases h)⟩
    have f2 := TrimPrefix_fn (bytesOf T) (ByteArray.mk #[43])
    rw [show (ByteArray.mk #[43]).data.toList = [UInt8.ofNat 43] from rfl, trimP T hT 43 (by omega)] at f2
    refine ⟨_, f2, ?_⟩
    have e1 : pNeg T = false := decide_eq_false h
    have e2 : pRest T = (if T.head? = some ((43 : Nat) : Int) then T.tail else T) := by
      unfold pRest
      by_cases h2 : T.head? = some 43
      · rw [if_pos (.inr h2)]; exact (if_pos h2).symm
      · rw [if_neg (fun hh => hh.elim h h2)]; exact (if_neg h2).symm
    rw [e1, e2]
    refine parse_tail false _ (hp 43 (by omega)) ?_ (fun r' h' => r' = ptT false (if T.head? = some ((43 : Nat) : Int) then T.tail else T) ∧ h' = []) ⟨rfl, rfl⟩
    split
    · rw [List.length_tail]; omega
    · exact hlen
end Go.Proofs.YtflmioakfboanaaDoor.Ev
end
section
set_option linter.unusedVariables false
set_option maxRecDepth 100000
namespace Go.Proofs.YtflmioakfboanaaDoor.Ev
open Go
def law01_NumBack_lv : List Nat → Keep := lvOf [([0, 1, 0, 1, 1, 1, 1, 1], ⟨996, 0, [], false⟩)]
def law01_NumBack_S0 (a0 : Bool) (a1 : List (List FV)) (s : ByteArray) (b6 : Bool) (i : Int) (b5 : Bool) (es1 : List (List FV)) (o : List (List FV)) : St := (St.mk [TV.und, TV.und, (TV.one (AV.ptr 0 0 0 0)), TV.und, TV.und, (TV.one (AV.fz (FV.str s))), (TV.one (AV.ptr 1 0 0 0)), (TV.one (AV.fz (FV.bool b6))), (TV.one (AV.ofl 1 2)), (TV.one (AV.fz (FV.int .i64 i))), TV.und, TV.und, TV.und, TV.und, TV.und, TV.und, TV.und, TV.und, TV.und, TV.und, TV.und, TV.und, TV.und, TV.und, TV.und, TV.und, TV.und, TV.und, TV.und, TV.und, TV.und, TV.und, TV.und, TV.und, TV.und, TV.und, TV.und, TV.und, TV.und, TV.und, TV.und, TV.und, TV.und, TV.und, TV.und, TV.und, TV.und, TV.und, TV.und, TV.und, TV.und, TV.und, TV.und, TV.und, TV.und, TV.und, TV.und, TV.und, TV.und, TV.und, TV.und, TV.und, TV.und, TV.und, TV.und, TV.und, TV.und, TV.und, TV.und, TV.und, TV.und, TV.und, TV.und] [(Ob.g 24 [(AV.fz (FV.bool a0)), (AV.fz (FV.sl 1 a1))]), (Ob.g 24 [(AV.fz (FV.bool b5)), (AV.fz (FV.sl 1 es1))]), (Ob.f 5 1 o)])
def law01_NumBack_L0 (R : TV → List Ob → Prop) (a0 : Bool) (a1 : List (List FV)) (s : ByteArray) (b6 : Bool) (i : Int) (b5 : Bool) (es1 : List (List FV)) (o : List (List FV)) : Prop := LoopAt Tryd.prog (modeOf [] []) law01_NumBack_lv Tryd.f11 none R [1, 1, 1, 1, 1, 0, 1, 0] (law01_NumBack_S0 a0 a1 s b6 i b5 es1 o)
def law01_NumBack_R0 (R : TV → List Ob → Prop) (a0 : Bool) (a1 : List (List FV)) (s : ByteArray) (b6 : Bool) (i : Int) (b5 : Bool) (es1 : List (List FV)) (o : List (List FV)) : Prop :=
  ((((decide (i < (((List.length o) : Nat) : Int))) = true) → ((((0 : Int) ≤ i) ∧ (i < (((List.length o) : Nat) : Int))) ∧ (((Int.toNat i) < (List.length o)) ∧ (law01_NumBack_L0 R a0 a1 s b6 (IntKind.wrap .i64 (i + 1)) b5 es1 (List.set o (Int.toNat i) [(FV.int .u8 48)]))))) ∧ (((decide (i < (((List.length o) : Nat) : Int))) = false) → (∃ ns4 : List Int, ((o = (List.map (fun n5 => [(FV.int .u8 n5)]) ns4)) ∧ ((((ByteArray.size (ByteArray.mk #[43])) + (ByteArray.size (bytesOf ns4))) ≤ 9223372036854775807) ∧ ((((ByteArray.size ((ByteArray.mk #[43]) ++ (bytesOf ns4))) + (ByteArray.size s)) ≤ 9223372036854775807) ∧ (((a0 = true) → (∃ ns5 : List Int, ((o = (List.map (fun n6 => [(FV.int .u8 n6)]) ns5)) ∧ ((((ByteArray.size (ByteArray.mk #[45])) + (ByteArray.size (bytesOf ns5))) ≤ 9223372036854775807) ∧ ((((0 : Int) ≤ 1) ∧ ((1 : Int) ≤ (((ByteArray.size s) : Nat) : Int))) ∧ ((((ByteArray.size ((ByteArray.mk #[45]) ++ (bytesOf ns5))) + (ByteArray.size (ByteArray.extract s (Int.toNat 1) (ByteArray.size s)))) ≤ 9223372036854775807) ∧ (∃ b23 : Bool, (∃ es6 : List (List FV), (∃ b24 : Bool, ((Fn Tryd.prog 36 [(TV.one (AV.fz (FV.str (((ByteArray.mk #[45]) ++ (bytesOf ns5)) ++ (ByteArray.extract s (Int.toNat 1) (ByteArray.size s))))))] [] (TV.tup [(true, [(AV.fz (FV.bool b23)), (AV.fz (FV.sl 1 es6))]), (false, [(AV.fz (FV.bool b24))])]) []) ∧ (((b6 = true) → (((b24 = true) → (∃ b25 : Bool, ((Fn Tryd.prog 17 [(TV.agg [(AV.fz (FV.bool b5)), (AV.fz (FV.sl 1 es1))]), (TV.agg [(AV.fz (FV.bool a0)), (AV.fz (FV.sl 1 a1))])] [] (TV.one (AV.fz (FV.bool b25))) []) ∧ (((b25 = true) → (∃ b26 : Bool, ((Fn Tryd.prog 17 [(TV.agg [(AV.fz (FV.bool b23)), (AV.fz (FV.sl 1 es6))]), (TV.agg [(AV.fz (FV.bool a0)), (AV.fz (FV.sl 1 a1))])] [] (TV.one (AV.fz (FV.bool b26))) []) ∧ (R (TV.one (AV.fz (FV.bool b26))) [])))) ∧ ((b25 = false) → (R (TV.one (AV.fz (FV.bool false))) [])))))) ∧ ((b24 = false) → (R (TV.one (AV.fz (FV.bool false))) [])))) ∧ ((b6 = false) → (R (TV.one (AV.fz (FV.bool false))) []))))))))))))) ∧ ((a0 = false) → (∃ b27 : Bool, (∃ es7 : List (List FV), (∃ b28 : Bool, ((Fn Tryd.prog 36 [(TV.one (AV.fz (FV.str (((ByteArray.mk #[43]) ++ (bytesOf ns4)) ++ s))))] [] (TV.tup [(true, [(AV.fz (FV.bool b27)), (AV.fz (FV.sl 1 es7))]), (false, [(AV.fz (FV.bool b28))])]) []) ∧ (((b6 = true) → (((b28 = true) → (∃ b29 : Bool, ((Fn Tryd.prog 17 [(TV.agg [(AV.fz (FV.bool b5)), (AV.fz (FV.sl 1 es1))]), (TV.agg [(AV.fz (FV.bool a0)), (AV.fz (FV.sl 1 a1))])] [] (TV.one (AV.fz (FV.bool b29))) []) ∧ (((b29 = true) → (∃ b30 : Bool, ((Fn Tryd.prog 17 [(TV.agg [(AV.fz (FV.bool b27)), (AV.fz (FV.sl 1 es7))]), (TV.agg [(AV.fz (FV.bool a0)), (AV.fz (FV.sl 1 a1))])] [] (TV.one (AV.fz (FV.bool b30))) []) ∧ (R (TV.one (AV.fz (FV.bool b30))) [])))) ∧ ((b29 = false) → (R (TV.one (AV.fz (FV.bool false))) [])))))) ∧ ((b28 = false) → (R (TV.one (AV.fz (FV.bool false))) [])))) ∧ ((b6 = false) → (R (TV.one (AV.fz (FV.bool false))) [])))))))))))))))
theorem law01_NumBack_l0 {R : TV → List Ob → Prop} {a0 : Bool} {a1 : List (List FV)} {s : ByteArray} {b6 : Bool} {i : Int} {b5 : Bool} {es1 : List (List FV)} {o : List (List FV)} (h : law01_NumBack_R0 R a0 a1 s b6 i b5 es1 o) : law01_NumBack_L0 R a0 a1 s b6 i b5 es1 o :=
  LoopAt.by_tr (by kernel_rfl) (by kernel_rfl) h
def law01_NumBack_H (R : TV → List Ob → Prop) (a0 : Bool) (a1 : List (List FV)) (noughts : Int) : Prop :=
  (∃ b23 : Bool, ((Fn Tryd.prog 12 [] [] (TV.one (AV.fz (FV.bool b23))) []) ∧ ((((Bool.not b23) = true) → (∃ b24 : Bool, ((Fn Tryd.prog 12 [] [] (TV.one (AV.fz (FV.bool b24))) []) ∧ (R (TV.one (AV.fz (FV.bool b24))) [])))) ∧ (((Bool.not b23) = false) → (∃ b25 : Bool, ((Fn Tryd.prog 24 [(TV.agg [(AV.fz (FV.bool a0)), (AV.fz (FV.sl 1 a1))])] [] (TV.one (AV.fz (FV.bool b25))) []) ∧ ((((Bool.not b25) = true) → (∃ b26 : Bool, ((Fn Tryd.prog 12 [] [] (TV.one (AV.fz (FV.bool b26))) []) ∧ (R (TV.one (AV.fz (FV.bool b26))) [])))) ∧ (((Bool.not b25) = false) → (∃ b27 : Bool, (∃ es6 : List (List FV), ((Fn Tryd.prog 15 [(TV.agg [(AV.fz (FV.bool a0)), (AV.fz (FV.sl 1 a1))])] [] (TV.agg [(AV.fz (FV.bool b27)), (AV.fz (FV.sl 1 es6))]) []) ∧ (∃ s1 : ByteArray, ((Fn Tryd.prog 33 [(TV.agg [(AV.fz (FV.bool b27)), (AV.fz (FV.sl 1 es6))])] [] (TV.one (AV.fz (FV.str s1))) []) ∧ (∃ b28 : Bool, (∃ es7 : List (List FV), (∃ b29 : Bool, ((Fn Tryd.prog 36 [(TV.one (AV.fz (FV.str s1)))] [] (TV.tup [(true, [(AV.fz (FV.bool b28)), (AV.fz (FV.sl 1 es7))]), (false, [(AV.fz (FV.bool b29))])]) []) ∧ ((((0 : Int) ≤ (IntKind.wrap .i64 noughts)) ∧ (((IntKind.wrap .i64 noughts) ≤ (IntKind.wrap .i64 noughts)) ∧ ((1 * (IntKind.wrap .i64 noughts)) ≤ 281474976710656))) ∧ (law01_NumBack_L0 R a0 a1 s1 b29 0 b28 es7 (List.replicate (Int.toNat (IntKind.wrap .i64 noughts)) [(FV.int .u8 0)]))))))))))))))))))))
theorem law01_NumBack_fn (a0 : Bool) (a1 : List (List FV)) (noughts : Int) {r : TV} {h : List Ob} (H : law01_NumBack_H (fun r' h' => r' = r ∧ h' = h) a0 a1 noughts) : Fn Tryd.prog 11 [(TV.agg [(AV.fz (FV.bool a0)), (AV.fz (FV.sl 1 a1))]), (TV.one (AV.fz (FV.int .u8 noughts)))] [] r h :=
  Fn.by_tr (M := (modeOf [] [])) (lv := law01_NumBack_lv) (own := none) (F := Tryd.f11) (by kernel_rfl) (by kernel_rfl) (by first | decide | simp) (by kernel_rfl) H
end Go.Proofs.YtflmioakfboanaaDoor.Ev
end
section
set_option linter.unusedVariables false
set_option linter.unusedSimpArgs false
namespace Go.Proofs.YtflmioakfboanaaDoor.Ev
open Go
theorem read_ok {s : Bool} {l : List Int} (hs : Snd s l) {W : List Int} (hok : okX W = true) (hv : vX W = val 1000000000 l) :
    ptT s W = .tup [(true, [.fz (.bool s), .fz (.sl 1 (ints .u32 l))]), (false, [.fz (.bool true)])] := by
  have h0 := val_nonneg (B := 1000000000) (by omega) hs.lim
  have hlt : val 1000000000 l < 1000000000 ^ 64 := Int.lt_of_lt_of_le (val_lt (by omega) hs.lim) (pow_mono (by omega) hs.len)
  obtain ⟨h1, h2⟩ := mk_small s (val 1000000000 l) h0 hlt
  have h3 : (if s = true then -val 1000000000 l else val 1000000000 l) = sv s l := rfl
  rw [h3] at h1 h2
  obtain ⟨h4, h5⟩ := big_sv hs
  have h6 := dig_len hs
  have hb : mkB (vX W) = true := by unfold mkB; rw [hv, if_neg (by omega)]
  unfold ptT ptS ptL ptB
  rw [if_pos hok, if_pos hok, if_pos hok, hb, hv, h1, h2, h4, h5]
def bodyT (l : List Int) : List Int := if l.length = 0 then [48] else tdig (val 1000000000 l).toNat
theorem body_ok {s : Bool} {l : List Int} (hs : Snd s l) (n : Nat) : okX (List.replicate n 48 ++ bodyT l) = true ∧ vX (List.replicate n 48 ++ bodyT l) = val 1000000000 l := by
  have h0 := val_nonneg (B := 1000000000) (by omega) hs.lim
  have hz := val_zero_iff (B := 1000000000) (by omega) hs.lim hs.norm
  have hall : (bodyT l).all (fun c => decide (48 ≤ c ∧ c ≤ 57)) = true := by
    unfold bodyT
    split
    · rfl
    · rw [List.all_eq_true]
      intro c hc
      simp only [tdig, List.mem_map, List.mem_reverse] at hc
      obtain ⟨d, hd, rfl⟩ := hc
      have := digsT_lim _ d hd
      simp; omega
  have hne : bodyT l ≠ [] := by
    unfold bodyT
    split
    · simp
    · rename_i hl
      simp only [tdig, ne_eq, List.map_eq_nil_iff, List.reverse_eq_nil_iff]
      rw [digs_nil (by omega)]
      intro h
      exact hl (by rw [hz.1 (by omega)]; rfl)
  constructor
  · unfold okX
    rw [List.all_append, hall, Bool.and_true, Bool.and_eq_true]
    refine ⟨decide_eq_true (fun h => hne (List.append_eq_nil_iff.1 h).2), ?_⟩
    rw [List.all_eq_true]
    intro c hc
    rw [List.eq_of_mem_replicate hc]; rfl
  · unfold vX
    rw [List.map_append, List.map_replicate, show (48 : Int) - 48 = 0 from rfl, bv_skip]
    unfold bodyT
    split
    · rename_i hl
      rw [List.length_eq_zero_iff.1 hl]; rfl
    · have : (tdig (val 1000000000 l).toNat).map (· - 48) = (digs 10 (val 1000000000 l).toNat).reverse := by
        unfold tdig
        rw [List.map_map]
        conv => rhs; rw [← List.map_id (digs 10 (val 1000000000 l).toNat).reverse]
        refine List.map_congr_left fun x _ => ?_
        show 48 + x - 48 = x
        omega
      rw [this, bv_val, digsT_val]
      omega
theorem body_len {s : Bool} {l : List Int} (hs : Snd s l) : (bodyT l).length ≤ 576 := by
  have := dig_len hs
  unfold bodyT
  split
  · simp
  · rw [tdig_len]; exact this
theorem body_head {s : Bool} {l : List Int} (hs : Snd s l) : (bodyT l).head? ≠ some 45 ∧ (bodyT l).head? ≠ some 43 := by
  have h := (body_ok hs 0).1
  rw [List.replicate_zero, List.nil_append] at h
  cases hb : bodyT l with
  | nil => simp
  | cons x X =>
    rw [hb] at h
    unfold okX at h
    simp at h
    simp
    omega
theorem numT_eq {s : Bool} {l : List Int} (hs : Snd s l) (hb : sndB s l = true) : numT s l = (if s = true then [45] else []) ++ bodyT l := by
  unfold numT bodyT
  rw [if_pos hb]
  split
  · rename_i hl
    have := hs.sign (List.length_eq_zero_iff.1 hl)
    subst this
    rfl
  · rfl
theorem pt_plain {X : List Int} (h1 : X.head? ≠ some 45) (h2 : X.head? ≠ some 43) : pNeg X = false ∧ pRest X = X := by
  unfold pNeg pRest
  rw [if_neg (fun h => h.elim h1 h2)]
  exact ⟨decide_eq_false h1, rfl⟩
theorem set_mid (a b c : Int) (X : List Int) : ∀ i : Nat, (List.replicate i a ++ b :: X).set i c = List.replicate i a ++ c :: X
  | 0 => rfl
  | i + 1 => by simp [List.replicate_succ, set_mid a b c X i]
theorem back_loop (s : Bool) (l : List Int) (hs : Snd s l) (hb : sndB s l = true) (hu : U32 l) (n : Nat) (hn : n ≤ 255) (R : TV → List Ob → Prop) (hR : R (.one (.fz (.bool true))) []) :
    ∀ k i : Nat, i + k = n → law01_NumBack_L0 R s (ints .u32 l) (bytesOf (numT s l)) true i s (ints .u32 l) (ints .u8 (List.replicate i 48 ++ List.replicate k 0))
  | 0, i, h => by
    refine law01_NumBack_l0 ?_
    unfold law01_NumBack_R0
    have hlen := hs.len
    have hbl := body_len hs
    have hT := numT_bytes s l
    have hTl : (numT s l).length ≤ 577 := by
      rw [numT_eq hs hb, List.length_append]
      split <;> simp <;> omega
    rw [List.replicate_zero, List.append_nil, ints_len, List.length_replicate, dec_t, dec_f]
    have hbn : Bytes (List.replicate i 48) := fun x hx => by rw [List.eq_of_mem_replicate hx]; omega
    refine ⟨fun h => by omega, fun _ => ⟨List.replicate i 48, rfl, ?_, ?_, fun h1 => ⟨List.replicate i 48, rfl, ?_, ⟨by omega, ?_⟩, ?_, ?_⟩, fun h1 => ?_⟩⟩
    · rw [size_of, List.length_replicate]; show ((1 : Nat) + _ : Nat) ≤ _; omega
    · rw [show ByteArray.mk #[43] = bytesOf [43] from rfl, app_of, size_of, size_of]
      simp; omega
    · rw [size_of, List.length_replicate]; show ((1 : Nat) + _ : Nat) ≤ _; omega
    · rw [size_of, numT_eq hs hb, h1]
      simp; omega
    · rw [show ByteArray.mk #[45] = bytesOf [45] from rfl, app_of, extract_of, size_of, size_of]
      simp [size_of]; omega
    · subst h1
      rw [show ByteArray.mk #[45] = bytesOf [45] from rfl, app_of, extract_of, app_of, size_of]
      have e : [45] ++ List.replicate i 48 ++ (((numT true l).drop (Int.toNat 1)).take ((numT true l).length - Int.toNat 1)) = 45 :: (List.replicate i 48 ++ bodyT l) := by
        rw [numT_eq hs hb]
        simp
      rw [e]
      have hB : Bytes (45 :: (List.replicate i 48 ++ bodyT l)) := by
        refine Lim.cons (Bytes.append hbn ?_) (by omega) (by omega)
        rw [numT_eq hs hb] at hT
        exact fun x hx => hT x (List.mem_append_right _ hx)
      have hp := parse_ok _ hB (by simp; omega)
      rw [show pNeg (45 :: (List.replicate i 48 ++ bodyT l)) = true from rfl, show pRest (45 :: (List.replicate i 48 ++ bodyT l)) = List.replicate i 48 ++ bodyT l from rfl, read_ok hs (body_ok hs i).1 (body_ok hs i).2] at hp
      exact ⟨_, _, _, hp, fun _ => ⟨fun _ => ⟨_, same_self _ _ (by omega), fun _ => ⟨_, same_self _ _ (by omega), hR⟩, fun h => (by cases h)⟩, fun h => (by cases h)⟩, fun h => (by cases h)⟩
    · subst h1
      rw [show ByteArray.mk #[43] = bytesOf [43] from rfl, app_of, app_of]
      have e : [43] ++ List.replicate i 48 ++ numT false l = 43 :: (List.replicate i 48 ++ bodyT l) := by
        rw [numT_eq hs hb]
        simp
      rw [e]
      have hB : Bytes (43 :: (List.replicate i 48 ++ bodyT l)) := by
        refine Lim.cons (Bytes.append hbn ?_) (by omega) (by omega)
        rw [numT_eq hs hb] at hT
        exact fun x hx => hT x (List.mem_append_right _ hx)
      have hp := parse_ok _ hB (by simp; omega)
      rw [show pNeg (43 :: (List.replicate i 48 ++ bodyT l)) = false from rfl, show pRest (43 :: (List.replicate i 48 ++ bodyT l)) = List.replicate i 48 ++ bodyT l from rfl, read_ok hs (body_ok hs i).1 (body_ok hs i).2] at hp
      exact ⟨_, _, _, hp, fun _ => ⟨fun _ => ⟨_, same_self _ _ (by omega), fun _ => ⟨_, same_self _ _ (by omega), hR⟩, fun h => (by cases h)⟩, fun h => (by cases h)⟩, fun h => (by cases h)⟩
  | k + 1, i, h => by
    refine law01_NumBack_l0 ?_
    unfold law01_NumBack_R0
    rw [ints_len, List.length_append, List.length_replicate, List.length_replicate, dec_t, dec_f]
    have e : IntKind.wrap .i64 ((i : Int) + 1) = ((i + 1 : Nat) : Int) := w64 (by omega) (by omega)
    refine ⟨fun _ => ⟨⟨by omega, by omega⟩, by omega, ?_⟩, fun h => by omega⟩
    rw [e, Int.toNat_natCast, ints_set]
    have : (List.replicate i 48 ++ List.replicate (k + 1) 0 : List Int).set i 48 = List.replicate (i + 1) 48 ++ List.replicate k 0 := by
      rw [List.replicate_succ (a := (0 : Int)), set_mid, List.replicate_succ', List.append_assoc]
      rfl
    rw [this]
    exact back_loop s l hs hb hu n hn R hR k (i + 1) (by omega)
theorem law_NumBack (xs : List TV) (h : TyAll Tryd.prog [24, 5] xs) : Fn Tryd.prog 11 xs [] (.one (.fz (.bool true))) [] := by
  cases h with
  | cons h1 h =>
  cases h with
  | cons h2 h =>
  cases h
  obtain ⟨s, l, rfl, hu, la1⟩ := tyV_Int h1
  obtain ⟨n, rfl, n0, n1⟩ := tyV_int h2 Tryd.underlying5
  have n0 : 0 ≤ n := n0
  have n1 : n ≤ 255 := n1
  refine law01_NumBack_fn _ _ _ ?_
  unfold law01_NumBack_H
  refine ⟨_, answers_ok, by simp, fun _ => ⟨_, rsound_ok s l (by omega), ?_⟩⟩
  rw [not_t, not_f]
  refine ⟨fun _ => ⟨_, answers_ok, rfl, rfl⟩, fun hb => ?_⟩
  have hs := (sndB_iff hu).1 hb
  have hlen := hs.len
  have hbl := body_len hs
  have hTl : (numT s l).length ≤ 577 := by
    rw [numT_eq hs hb, List.length_append]
    split <;> simp <;> omega
  have hp := parse_ok (numT s l) (numT_bytes s l) (by omega)
  have hr : pNeg (numT s l) = s ∧ pRest (numT s l) = bodyT l := by
    rw [numT_eq hs hb]
    cases s
    · rw [if_neg (by decide), List.nil_append]
      exact pt_plain (body_head hs).1 (body_head hs).2
    · exact ⟨rfl, rfl⟩
  have h0 := body_ok hs 0
  rw [List.replicate_zero, List.nil_append] at h0
  rw [hr.1, hr.2, read_ok hs h0.1 h0.2] at hp
  have ew : IntKind.wrap .i64 n = n := w64 (by omega) (by omega)
  obtain ⟨m, rfl⟩ := Int.eq_ofNat_of_zero_le n0
  rw [ew]
  refine ⟨_, _, own_ok s l la1, _, text_ok s l hu (by omega), _, _, _, hp, ⟨by omega, by omega, by omega⟩, ?_⟩
  rw [Int.toNat_natCast, ints_rep]
  exact back_loop s l hs hb hu m (by omega) _ ⟨rfl, rfl⟩ m 0 (by omega)
end Go.Proofs.YtflmioakfboanaaDoor.Ev
end
section
set_option linter.unusedVariables false
namespace Go.Proofs.YtflmioakfboanaaDoor.numBack
open Go.ChangeShapes Go.WideShapes Go.ChangeAt Go.RowKit Go.Joins
open Go.Proofs.YtflmioakfboanaaDoor.Ev (Ty TyAll TabAt Glob tabs closedB openedAll trodAll_below tabAt_ints_of tabAt_ifc_of law_NumBack)
theorem own : ownKnob Tryd.prog.godebug = none := by kernel_rfl
theorem laidOut : laidOutB Tryd.prog = true := by kernel_rfl
set_option maxRecDepth 100000 in
theorem door_met (os : Os) (args : Array Value) : laidMetH Tryd.prog Rows.numBackRow.laid ((World.laidAll Tryd.prog os Rows.numBackRow.laid).forCall (fun _ _ => 0) ⟨#[], args, []⟩).memory :=
  Eq.mp (show laidMet Tryd.prog Rows.numBackRow.laid ((World.laidAll Tryd.prog os Rows.numBackRow.laid).forCall (fun _ _ => 0) ⟨#[], args, []⟩).memory = laidMetH Tryd.prog Rows.numBackRow.laid ((World.laidAll Tryd.prog os Rows.numBackRow.laid).forCall (fun _ _ => 0) ⟨#[], args, []⟩).memory by kernel_rfl) (laidMet_laidAll (os := os) args (by kernel_rfl) (by kernel_rfl))
set_option maxRecDepth 100000 in
theorem glob {W : World} (hL : laidMetH Tryd.prog Rows.numBackRow.laid W) : Glob W := by
  have hM : laidMet Tryd.prog Rows.numBackRow.laid W := Eq.mp (by kernel_rfl) hL
  intro x hx
  simp only [tabs, List.mem_cons, List.mem_nil_iff, or_false] at hx
  rcases hx with rfl | rfl | rfl
  · exact tabAt_ifc_of (n := "strconv.ErrSyntax") (d := Rows.laid_strconv_ErrSyntax) hM (by kernel_rfl) (List.mem_of_getElem? (i := 5) (by kernel_rfl)) (g := 0) (t := 67) (by kernel_rfl) (by kernel_rfl) Tryd.underlying67
  · exact tabAt_ifc_of (n := "strconv.ErrRange") (d := Rows.laid_strconv_ErrRange) hM (by kernel_rfl) (List.mem_of_getElem? (i := 4) (by kernel_rfl)) (g := 1) (t := 67) (by kernel_rfl) (by kernel_rfl) Tryd.underlying67
  · have h := tabAt_ints_of (n := "internal/strconv.uint64pow10") (k := .u64) (zs := (List.range 20).map fun i => ((10 ^ i : Nat) : Int)) hM (List.mem_of_getElem? (i := 2) (by kernel_rfl)) (g := 2) (t := 138) (by kernel_rfl) (by kernel_rfl) Tryd.underlying138 Tryd.underlying49 (by kernel_rfl) (by kernel_rfl)
    rw [List.map_map] at h
    exact h
set_option maxRecDepth 100000 in
theorem lifted (os : Os) (started : os.Started) (H : Type) (enc : TypeId × Value → H) :
    ReturnsInHanded {} Tryd.checked os 11 .any (fun w args => (Rows.numBackSpec.pre enc Tryd.prog Tryd.f11 Rows.numBackRow.domain false w args ∧ laidMetH Tryd.prog Rows.numBackRow.laid w) ∧ sizedMet enc Tryd.prog Tryd.f11 (OpenSpec.ofChange Rows.numBackSpec) false w args)
      (Rows.numBackSpec.post enc Tryd.prog Tryd.f11 false true false false) := by
  refine returnsInHanded_of_change_and (C := Tryd.checked) (X := fun w _ => laidMetH Tryd.prog Rows.numBackRow.laid w) (fun _ _ _ hh h => h.of_heap hh) own started (by kernel_rfl) Tryd.func11
    (ChangeSpec.witness_shaped (enc := enc) (C := Tryd.checked) (os := os) (X := fun w _ => laidMetH Tryd.prog Rows.numBackRow.laid w) false (World.laidAll Tryd.prog os Rows.numBackRow.laid) #[.agg #[.bool false, .slice none 0 0], .int .u8 0] 8 (World.laidAll_os _ _ _) (World.shaped_of_ZipB (by kernel_rfl) (by kernel_rfl)) (by kernel_rfl) (by kernel_rfl) (by kernel_rfl) (door_met os _)) ?_
  intro W base args ds gs before hval0 hW hcnd hsz0 hL _
  have hsz : (DataW.weightsEach Tryd.prog (Tryd.f11.params.toList ++ Rows.numBackSpec.plain.varTypes Tryd.prog) (ds ++ gs)).all (· ≤ reachBytes) = true := hsz0
  have hval : ∀ (j : Nat) t v, Tryd.f11.params[j]? = some t → args[j]? = some v → Value.okWide Tryd.prog W .any base t v := hval0
  have hW' := hW
  obtain ⟨p, q, hA0, hV, rfl, hfz, hnd⟩ := hW
  have hA : DataW.TrodAll enc Tryd.prog W 0 (fun _ => true) true Tryd.f11.params.toList args.toList ds p := hA0
  rw [Tryd.params11] at hA hval hsz
  obtain ⟨rfl, rfl⟩ := trodVars_none hV
  have hA2 := hA
  obtain ⟨v0, vs0, d0, ds0, p0, q0, hargs, rfl, rfl, h0_, r0⟩ := trodAll_cons hA2
  obtain ⟨v1, vs1, d1, ds1, p1, q1, rfl, rfl, rfl, h1_, r1⟩ := trodAll_cons r0
  obtain ⟨rfl, rfl, rfl⟩ := trodAll_nil r1
  obtain ⟨xs, h1, h2, h3⟩ := openedAll (S := [24, 4, 22, 48, 5]) (ts := [24, 5]) (by kernel_rfl) (by decide) (fun j t v ht hv => hval j t v (by simpa using ht) (by simpa using hv)) hA (fun m hm => by simpa using List.all_eq_true.1 hsz m hm)
  refine ((law_NumBack xs h1).door (glob hL) (by simpa using h2) (fun i x hx => by obtain ⟨v, hv, hr⟩ := h3 i x hx; exact ⟨v, by simpa using hv, hr⟩)).mono fun e W' ⟨he, bel⟩ => ?_
  subst he
  exact ⟨_, rfl, _, _, _, [], _, [], hW', trodAll_mk1 (shut_bool Tryd.underlying4 _), trodAll_below laidOut bel (ts := [24, 5]) (by decide +kernel) hA, rfl, bel.frame _, fun h => by cases h⟩
theorem over : Rows.numBackRow.holds Tryd.pinned (OpenSpec.ofChange Rows.numBackSpec) :=
  OpenClaim.holds_of_wide 11 Tryd.f11 rfl rfl rfl rfl rfl rfl rfl ⟨rfl, rfl, rfl, rfl, rfl⟩ rfl rfl rfl rfl rfl (by kernel_rfl) Tryd.func11 (by kernel_rfl)
    (of_decide_eq_true (by kernel_rfl)) (by unfold Func.isWrapper; first | (rw [if_pos (by decide +kernel)]; kernel_rfl) | (rw [if_neg (by decide +kernel)]; exact ⟨rfl, rfl⟩))
    (fun os started H enc _ => lifted os started H enc)
theorem proved : Rows.NumBackCardSaid :=
  Claim7.holds_tied_plain_at .later [] [.data, .data, .data, .data, .sentinel, .sentinel, .pinned] true (true, "c882deb6c08a6e4fc319056acccbaaa87bfe25e16c1c8d476e088865a2e3e750") true
    over (fun _ h => by cases h) (by kernel_rfl) (fun _ h => by cases h) numBack_row_tie rfl ⟨rfl, rfl⟩ (by kernel_rfl) rfl
    (fun f fn hf hfn => by
      obtain rfl : f = 11 := Option.some.inj ((show Tryd.prog.funcNamed "marginalia/marginalialaw01.NumBack" = some 11 by kernel_rfl).symm.trans hf) |>.symm
      obtain rfl : fn = Tryd.f11 := (Option.some.inj (Tryd.func11.symm.trans hfn)).symm
      exact ⟨by kernel_rfl, fun j t ht => by
        rw [Tryd.params11] at ht
        have hm : t ∈ [24, 5] := by simpa using Array.mem_of_getElem? ht
        have hall : ([24, 5].all fun u => !Tryd.prog.wantsStandIn u) = true := by kernel_rfl
        exact (show Tryd.prog.wantsStandIn t = false by simpa using List.all_eq_true.1 hall t hm)⟩)
    (by kernel_rfl)
end Go.Proofs.YtflmioakfboanaaDoor.numBack
namespace Go.Proofs.YtflmioakfboanaaDoor
theorem numBack_holds : Rows.NumBackCardSaid := numBack.proved
end Go.Proofs.YtflmioakfboanaaDoor
end
