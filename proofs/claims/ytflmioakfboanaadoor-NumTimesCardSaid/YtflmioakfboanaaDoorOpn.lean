/-
  Opening the arguments of a law: slices of whole numbers that stand as a field of a struct.
-/
import Derived.Test.YtflmioakfboanaaDoorWWords
import Derived.ProofKit
import Derived.OpenShut
import Derived.Lib.SmallJoins
namespace Go.Proofs.YtflmioakfboanaaDoor.Opn
open Go.ChangeShapes Go.WideShapes Go.ChangeAt Go.RowKit Go.Proofs.YtflmioakfboanaaDoorW.PrintWords

theorem ints {H : Type} {enc : TypeId × Value → H} {P : Program} {W : World} {base : Nat} {spare : Nat → Bool} {held : Bool} {n : Nat} {t e : TypeId} {k : IntKind} {v : Value} {y : DataW H × List MemPlace}
    (hu : P.underlying t = some (.slice e)) (he : P.underlying e = some (.int k)) (hc : P.cellsOf e = 1) (h : DataW.trod enc P W base spare held n t [v] = some y) :
    ∃ (A : Option Addr) (l : List Int) (c : Nat), v = .slice A l.length c ∧ Kd.C (Kd.int k) W A l.length l ∧ l.length ≤ c ∧ l.length ≤ maxLen ∧ ∀ x ∈ l, (Lit.int k x).wf = true := by
  rcases open_ints hu he hc h with ⟨hcs, _⟩ | ⟨x, l, c, zs, hcs, _, hl, hm, hz, _, hcell, hwz⟩
  · have hv : v = .slice none 0 0 := by simpa using hcs
    refine ⟨none, [], 0, hv, ?_, Nat.le_refl _, Nat.zero_le _, by simp⟩
    exact Kd.C_of_reads (d := (0 : Int)) (h1 := fun _ => rfl) ⟨rfl, by simp, fun hp => absurd hp (by simp)⟩
  · have hv : v = .slice (some x) l c := by simpa using hcs
    have hlz : l ≤ zs.length := by rw [hz]; split <;> omega
    have hlen : (zs.take l).length = l := by simp; omega
    refine ⟨some x, zs.take l, c, by rw [hlen]; exact hv, ?_, by rw [hlen]; exact hl, by rw [hlen]; omega, fun y hy => hwz y (List.mem_of_mem_take hy)⟩
    rw [hlen]
    refine Kd.C_of_reads (d := (0 : Int)) (h1 := fun _ => rfl) ⟨hlen, by unfold maxLen at hm; omega, fun hp => ⟨x, rfl, fun j hj => ?_⟩⟩
    rw [hcell j (by omega)]
    simp [List.getD_eq_getElem?_getD, hj]
end Go.Proofs.YtflmioakfboanaaDoor.Opn
