/-
  What num.Text's walk leans on: strconv.Itoa and strings.Repeat at this translation, a builder that outlives new blocks, and the text of limbs.
-/
import Derived.Test.YtflmioakfboanaaDoorBld
import Derived.Test.YtflmioakfboanaaDoorShelf
import Derived.Test.YtflmioakfboanaaDoorWWords
import Derived.Lib.AppendIntMem
import Derived.Lib.ItoaMem
namespace Go.Proofs.YtflmioakfboanaaDoor.Txt
open Go.RowKit Go.Proofs.YtflmioakfboanaaDoorW.PrintWords

def TabP (w : World) : Prop := Lib.TabIs Tryd.prog w "internal/strconv.uint64pow10" .u64 Lib.pow10Tab
theorem TabP.below {w w' : World} (h : TabP w) (hb : Below w.heap.size w w') : TabP w' := by
  unfold TabP Lib.TabIs World.var? at *
  cases hg : Tryd.prog.globalNamed "internal/strconv.uint64pow10" with
  | none => simp [hg] at h
  | some g =>
    simp only [hg, Option.bind_some] at h ⊢
    have hlt : g < w.heap.size := by
      rcases Nat.lt_or_ge g w.heap.size with h' | h'
      · exact h'
      · rw [Array.getElem?_eq_none h'] at h; simp at h
    rw [hb.block g hlt]
    exact h

/-- Itoa at a small number, or where its table stands. -/
theorem itoa_any (n : Int) (h0 : 0 ≤ n) (h1 : n ≤ 9223372036854775807) (w : World) (hI : n < 100 ∨ TabP w) :
    Calls Tryd.prog 59 #[.int .i64 n] w fun e w' => ∃ s : ByteArray, e = .returned (.string s) ∧ Aside0 (s = ⟨(Lib.itoa n).toArray⟩) ∧ Below w.heap.size w w' := by
  rcases hI with h | h
  · obtain ⟨m, rfl⟩ := Int.eq_ofNat_of_zero_le h0
    refine (Tryd.strconv_Itoa_small m (by omega) w).mono ?_
    rintro e w' ⟨rfl, rfl⟩
    refine ⟨_, rfl, ⟨?_⟩, Below.refl _ _⟩
    unfold Lib.itoa
    rw [if_neg (by omega)]
    rfl
  · refine (Tryd.strconv_Itoa n (by omega) h1 w h).mono ?_
    rintro e w' ⟨rfl, k, os, rfl⟩
    exact ⟨_, rfl, ⟨rfl⟩, Lib.below_grow _ _ (Nat.le_refl _) _ _⟩
theorem repeat_any (s : ByteArray) (c : Int) (w : World) (h0 : 0 ≤ c) (hc : c ≤ 9223372036854775807) (hlen : s.size * c.toNat ≤ 140737488355328) :
    Calls Tryd.prog 61 #[.string s, .int .i64 c] w fun e w' => ∃ z : ByteArray, e = .returned (.string z) ∧ Aside0 (z = ⟨(Lib.repeatL s.data.toList c.toNat).toArray⟩) ∧ Below w.heap.size w w' := by
  obtain ⟨m, rfl⟩ := Int.eq_ofNat_of_zero_le h0
  refine (Tryd.strings_Repeat s m w (by omega) (by simpa using hlen)).mono ?_
  rintro e w' ⟨rfl, hb⟩
  exact ⟨_, rfl, ⟨rfl⟩, hb⟩

theorem nDigits_le (k u : Nat) (h : u < 10 ^ (k + 1)) : Lib.nDigits u ≤ k + 1 := by
  induction k generalizing u with
  | zero => rw [Lib.nDigits_small (by omega)]; omega
  | succ k ih =>
    by_cases hs : u < 10
    · rw [Lib.nDigits_small hs]; omega
    · rw [Lib.nDigits_big hs]
      have := ih (u / 10) (by rw [Nat.pow_succ] at h; omega)
      omega
theorem nDigits_le9 (u : Nat) (h : u < 1000000000) : Lib.nDigits u ≤ 9 := nDigits_le 8 u h
theorem itoa_size (n : Int) (h0 : 0 ≤ n) (h1 : n < 1000000000) : 1 ≤ (Lib.itoa n).length ∧ (Lib.itoa n).length ≤ 9 := by
  unfold Lib.itoa
  rw [if_neg (by omega), Lib.decDigits_length]
  exact ⟨Lib.nDigits_pos _, nDigits_le9 _ (by omega)⟩
/-- What k limbs, from the top on, are written as. -/
def ltx (l : List Int) : Nat → List UInt8
  | 0 => []
  | k + 1 => ltx l k ++ ((if k = 0 then [] else Lib.repeatL [48] (9 - (Lib.itoa (rd l ((l.length : Int) - 1 - k))).length)) ++ Lib.itoa (rd l ((l.length : Int) - 1 - k)))

theorem rd_mem (l : List Int) (i : Int) (h0 : 0 ≤ i) (h1 : i < (l.length : Int)) : rd l i ∈ l := by
  unfold rd
  rw [List.getD_eq_getElem?_getD, List.getElem?_eq_getElem (by omega)]
  exact List.getElem_mem _
theorem isB_below {T e : TypeId} {B b : Nat} {bs : List Value} {w w' : World} (h : Lib.IsBuilder T e B b bs w) (hb : Below w.heap.size w w') : Lib.IsBuilder T e B b bs w' := by
  have key : ∀ p, Lib.BuilderAt T e B b p bs w → Lib.BuilderAt T e B b p bs w' := by
    rintro p h0
    have hlt := h0.lt
    obtain ⟨hB, v, hk, ho, hn⟩ := h0
    exact ⟨hB, v, (hb.block b hlt).trans hk, pw_own_below ho hb, hn⟩
  exact h.imp (key _) (key _)
theorem cast_at {T e : TypeId} {B b : Nat} {p : Value} {bs cs : List Value} {w : World} (h : Lib.BuilderAt T e B b p bs w) (hc : cs = bs) : Lib.BuilderAt T e B b p cs w := hc ▸ h
theorem zsize (n : Nat) : (⟨(Lib.repeatL ([48] : List UInt8) ((9 : Int) - (n : Int)).toNat).toArray⟩ : ByteArray).size ≤ 9 := by
  show (Lib.repeatL ([48] : List UInt8) ((9 : Int) - (n : Int)).toNat).toArray.size ≤ 9
  rw [List.size_toArray, Lib.repeatL_length]
  simp
theorem ltx_zero (l : List Int) (k : Nat) (m y : Int) (s : ByteArray) (pre : List UInt8) (hk : k = 0) (hm : m = (l.length : Int) - 1 - k) (hy : rd l m = y) (hs : s = ⟨(Lib.itoa y).toArray⟩) :
    Lib.byteCells (pre ++ ltx l (k + 1)) = Lib.byteCells (pre ++ ltx l k) ++ Lib.strCells s := by
  subst hs hy hm hk
  rw [Lib.strCells_eq]
  simp [ltx, Lib.byteCells]
theorem ltx_succ (l : List Int) (k : Nat) (m y : Int) (s z : ByteArray) (pre : List UInt8) (hk : ¬ k = 0) (hm : m = (l.length : Int) - 1 - k) (hy : rd l m = y) (hs : s = ⟨(Lib.itoa y).toArray⟩) (hz : z = ⟨(Lib.repeatL [48] ((9 : Int) - (s.size : Int)).toNat).toArray⟩) :
    Lib.byteCells (pre ++ ltx l (k + 1)) = Lib.byteCells (pre ++ ltx l k) ++ Lib.strCells z ++ Lib.strCells s := by
  have e : ((9 : Int) - (s.size : Int)).toNat = 9 - (Lib.itoa y).length := by
    have : s.size = (Lib.itoa y).length := by rw [hs]; show (Lib.itoa y).toArray.size = _; simp
    omega
  rw [e] at hz
  subst hs hy hm hz
  rw [Lib.strCells_eq, Lib.strCells_eq]
  simp [ltx, Lib.byteCells, if_neg hk]
theorem ltx_len (l : List Int) (k : Nat) (m y : Int) (pre : List UInt8) (h : (pre ++ ltx l k).length ≤ 1 + 9 * k) (hm : m = (l.length : Int) - 1 - k) (hy : rd l m = y) (hi : 1 ≤ (Lib.itoa y).length ∧ (Lib.itoa y).length ≤ 9) : (pre ++ ltx l (k + 1)).length ≤ 1 + 9 * (k + 1) := by
  subst hm hy
  rw [ltx]
  by_cases hk : k = 0
  · rw [if_pos hk]
    simp only [List.length_append, List.nil_append] at *
    omega
  · rw [if_neg hk]
    simp only [List.length_append, Lib.repeatL_length, List.length_singleton] at *
    omega
end Go.Proofs.YtflmioakfboanaaDoor.Txt
