/-
  The law NumTimes, plainly: the product by limbs is the product by digits, and the errors are the same.
-/
import Derived.Test.YtflmioakfboanaaDoorNumMulNumTimes
import Derived.Test.YtflmioakfboanaaDoorStNumTimes
namespace Go.Proofs.YtflmioakfboanaaDoor.Pure
open Go.RowKit Go.Proofs.YtflmioakfboanaaDoorW.PrintWords Go.Proofs.YtflmioakfboanaaDoorW.PrintLast Go.Proofs.YtflmioakfboanaaDoor.Val Go.Proofs.YtflmioakfboanaaDoor.PNumTimes

theorem body (a b : Bool) (la lb : List Int) (ha : la.length ≤ 70) (hb : lb.length ≤ 70) (x y : Bool × List Int × Int) (hx : Evt (fun k => num_Mul.f k a la b lb) x) (hy : Evt (fun k => marginaliaref01_Mul.f k a la b lb) y)
    (he : x = y) (hl : x.2.1.length ≤ 1000000) : Evt (fun k => marginalialaw01_NumTimes.j0 k false a la b lb) true := by
  subst he
  refine Evt.step (h := fun k => (num_Mul.f k a la b lb).bind fun x => (marginaliaref01_Mul.f k a la b lb).bind fun y => (marginaliaref01_Same.f k x.1 x.2.1 y.1 y.2.1).bind fun t => if t = true then some (x.2.2 == y.2.2) else some false) (fun k => ?_) ?_
  · simp only [marginalialaw01_NumTimes.j0]
    rw [if_neg (by simp), own_spec a la (by omega), own_spec b lb (by omega)]
    rfl
  · refine Evt.bind (h := fun x k => (marginaliaref01_Mul.f k a la b lb).bind fun y => (marginaliaref01_Same.f k x.1 x.2.1 y.1 y.2.1).bind fun t => if t = true then some (x.2.2 == y.2.2) else some false) hx ?_
    refine Evt.bind (h := fun y k => (marginaliaref01_Same.f k x.1 x.2.1 y.1 y.2.1).bind fun t => if t = true then some (x.2.2 == y.2.2) else some false) hy ?_
    refine Evt.bind (h := fun t _ => if t = true then some (x.2.2 == x.2.2) else some false) (same_refl x.1 x.2.1 (by omega)) (Evt.of fun _ => by simp)

theorem NumTimes : marginalialaw01_NumTimes.Pure := by
  intro a la b lb _ hwa _ hwb
  apply Evt.ex
  by_cases hla : la.length ≤ 70
  · by_cases hlb : lb.length ≤ 70
    · have key : Evt (fun k => marginalialaw01_NumTimes.j0 k false a la b lb) true := by
        by_cases hs : Snd a la ∧ Snd b lb
        · have hLa := limZ hs.1.lim hwa
          have hLb := limZ hs.2.lim hwb
          obtain ⟨r, r1, r2, r3, r4⟩ := mul_ev a b la lb hs.1 hs.2 hLa hLb
          obtain ⟨s, s1, s2, s3, s4⟩ := rmul_ev a b la lb hs.1 hs.2 hLa hLb
          obtain rfl := same_of r1 s1 r2 s2 (r3.trans s3.symm)
          refine body a b la lb hla hlb _ _ r4 s4 rfl ?_
          split
          · simp
          · simp only; omega
        · exact body a b la lb hla hlb _ _ (Evt.of (mul_bad a b la lb (by omega) (by omega) hs)) (rmul_bad a b la lb (by omega) (by omega) hs) rfl (by simp)
      refine key.congr fun k => ?_
      unfold marginalialaw01_NumTimes.f marginalialaw01_answers.f marginalialaw01_light.f
      have d1 : decide ((la.length : Int) ≤ 70) = true := decide_eq_true (by omega)
      have d2 : decide ((lb.length : Int) ≤ 70) = true := decide_eq_true (by omega)
      rw [d1, d2]
      rfl
    · refine Evt.of1 fun k => ?_
      unfold marginalialaw01_NumTimes.f marginalialaw01_answers.f marginalialaw01_light.f
      have d1 : decide ((la.length : Int) ≤ 70) = true := decide_eq_true (by omega)
      have d2 : decide ((lb.length : Int) ≤ 70) = false := decide_eq_false (by omega)
      rw [d1, d2]
      simp [marginalialaw01_NumTimes.j0, marginalialaw01_answers.f]
  · refine Evt.of1 fun k => ?_
    unfold marginalialaw01_NumTimes.f marginalialaw01_answers.f marginalialaw01_light.f
    have d1 : decide ((la.length : Int) ≤ 70) = false := decide_eq_false (by omega)
    rw [d1]
    simp [marginalialaw01_NumTimes.j0, marginalialaw01_answers.f]
end Go.Proofs.YtflmioakfboanaaDoor.Pure
