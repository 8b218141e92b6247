/-
  Part of a claim: definitions and lemmas that its theorem leans on, packed by wip/tools/pack.py.
-/
import Derived.Test.YtejefchehdifhaaDoorZG2
import Derived.IntWalk
import Derived.Recover
import Derived.Test.YtejefchehdifhaaDoorProg
import Derived.Laws.Strings
import Derived.Shelf.Strings.Builder1
import Derived.Shelf.Strconv.Itoa3
import Derived.Shelf.Strings.Repeat
import Derived.Shelf.Strconv.AtoiAll
import Derived.Shelf.Strings.Prefix
import Derived.Shelf.Strings.SlTrimAscii
import Derived.Shelf.Strings.Trim
import Derived.Shelf.LaysM
import Derived.Shelf.Spec.DecodeRune
import Derived.Shelf.Unicode.DecodeAny
import Derived.Lib.AtoiAllCases
import Derived.Lib.SlTrimSet
set_option linter.unusedVariables false
set_option linter.unusedSimpArgs false
section
set_option linter.unusedVariables false
namespace Go.Proofs.YtejefchehdifhaaDoor.Ev
open Go
def rd (l : List Int) (i : Nat) : Int := l.getD i 0
def val (B : Int) : List Int → Int
  | [] => 0
  | x :: l => x + B * val B l
def Lim (B : Int) (l : List Int) : Prop := ∀ x ∈ l, 0 ≤ x ∧ x < B
def Norm (l : List Int) : Prop := ∀ h : l ≠ [], l.getLast h ≠ 0
theorem val_append (B : Int) (l m : List Int) : val B (l ++ m) = val B l + B ^ l.length * val B m := by
  induction l with
  | nil => simp [val]
  | cons x l ih => simp only [List.cons_append, val, ih, List.length_cons, Int.pow_succ]; grind
theorem val_snoc (B : Int) (l : List Int) (x : Int) : val B (l ++ [x]) = val B l + B ^ l.length * x := by
  rw [val_append]; simp [val]
theorem rd_at (l : List Int) (i : Nat) (h : i < l.length) : rd l i = l[i] := by
  unfold rd; simp [List.getD_eq_getElem?_getD, List.getElem?_eq_getElem h]
theorem rd_out (l : List Int) (i : Nat) (h : l.length ≤ i) : rd l i = 0 := by
  unfold rd; simp [List.getD_eq_getElem?_getD, List.getElem?_eq_none h]
theorem rd_some {l : List Int} {i : Nat} {x : Int} (h : l[i]? = some x) : rd l i = x := by
  unfold rd; simp [List.getD_eq_getElem?_getD, h]
theorem some_rd {l : List Int} {i : Nat} (h : i < l.length) : l[i]? = some (rd l i) := by
  rw [rd_at l i h]; exact List.getElem?_eq_getElem h
theorem Lim.nil (B : Int) : Lim B [] := by intro x hx; simp at hx
theorem Lim.append {B : Int} {l m : List Int} (h : Lim B l) (k : Lim B m) : Lim B (l ++ m) := by
  intro x hx
  rcases List.mem_append.1 hx with h1 | h1
  · exact h x h1
  · exact k x h1
theorem Lim.snoc {B : Int} {l : List Int} {x : Int} (h : Lim B l) (h0 : 0 ≤ x) (h1 : x < B) : Lim B (l ++ [x]) := h.append (by intro y hy; simp at hy; subst hy; exact ⟨h0, h1⟩)
theorem Lim.cons {B : Int} {l : List Int} {x : Int} (h : Lim B l) (h0 : 0 ≤ x) (h1 : x < B) : Lim B (x :: l) := by
  intro y hy
  rcases List.mem_cons.1 hy with rfl | hy
  · exact ⟨h0, h1⟩
  · exact h y hy
theorem Lim.left {B : Int} {l m : List Int} (h : Lim B (l ++ m)) : Lim B l := fun x hx => h x (List.mem_append_left _ hx)
theorem Lim.take {B : Int} {l : List Int} (h : Lim B l) (i : Nat) : Lim B (l.take i) := fun x hx => h x (List.mem_of_mem_take hx)
theorem Lim.drop {B : Int} {l : List Int} (h : Lim B l) (i : Nat) : Lim B (l.drop i) := fun x hx => h x (List.mem_of_mem_drop hx)
theorem Lim.rd {B : Int} (hB : 0 < B) {l : List Int} (h : Lim B l) (i : Nat) : 0 ≤ rd l i ∧ rd l i < B := by
  by_cases hi : i < l.length
  · rw [rd_at l i hi]; exact h _ (List.getElem_mem _)
  · rw [rd_out l i (by omega)]; exact ⟨Int.le_refl _, hB⟩
theorem pow_pos' {B : Int} (hB : 0 < B) (n : Nat) : 0 < B ^ n := Int.pow_pos hB
theorem pow_mono {B : Int} (hB : 1 ≤ B) {m n : Nat} (h : m ≤ n) : B ^ m ≤ B ^ n := by
  induction n with
  | zero => have : m = 0 := by omega
            subst this; exact Int.le_refl _
  | succ n ih =>
    by_cases e : m = n + 1
    · subst e; exact Int.le_refl _
    · have h1 := ih (by omega)
      have h2 := pow_pos' (show 0 < B by omega) n
      have h3 : B ^ n * 1 ≤ B ^ n * B := Int.mul_le_mul_of_nonneg_left hB (Int.le_of_lt h2)
      rw [Int.pow_succ]
      omega
theorem val_nonneg {B : Int} (hB : 0 < B) {l : List Int} (h : Lim B l) : 0 ≤ val B l := by
  induction l with
  | nil => exact Int.le_refl _
  | cons x l ih =>
    have h1 := (h x (by simp)).1
    have h2 := ih fun y hy => h y (by simp [hy])
    have h3 := Int.mul_nonneg (Int.le_of_lt hB) h2
    simp only [val]; omega
theorem val_lt {B : Int} (hB : 0 < B) {l : List Int} (h : Lim B l) : val B l < B ^ l.length := by
  induction l with
  | nil => simp [val]
  | cons x l ih =>
    have h1 := (h x (by simp)).2
    have h2 := ih fun y hy => h y (by simp [hy])
    have h3 : B * (val B l + 1) ≤ B * B ^ l.length := Int.mul_le_mul_of_nonneg_left (by omega) (Int.le_of_lt hB)
    simp only [val, List.length_cons, Int.pow_succ]
    have h4 : B ^ l.length * B = B * B ^ l.length := Int.mul_comm _ _
    rw [h4]
    rw [Int.mul_add, Int.mul_one] at h3
    omega
theorem Norm.nil : Norm [] := fun h => absurd rfl h
theorem norm_le {B : Int} (hB : 0 < B) {l : List Int} (h : Lim B l) (hn : Norm l) (h0 : l ≠ []) : B ^ (l.length - 1) ≤ val B l := by
  obtain ⟨m, x, rfl⟩ : ∃ m x, l = m ++ [x] := ⟨l.dropLast, l.getLast h0, (List.dropLast_concat_getLast h0).symm⟩
  have hx := hn h0
  simp at hx
  have hx1 := h x (by simp)
  rw [val_snoc]
  have h1 := val_nonneg hB h.left
  have h2 : B ^ m.length * 1 ≤ B ^ m.length * x := Int.mul_le_mul_of_nonneg_left (by omega) (Int.le_of_lt (pow_pos' hB _))
  simp
  omega
theorem val_zero_iff {B : Int} (hB : 0 < B) {l : List Int} (h : Lim B l) (hn : Norm l) : val B l = 0 ↔ l = [] := by
  constructor
  · intro hv
    rcases Decidable.em (l = []) with h0 | h0
    · exact h0
    · have := norm_le hB h hn h0
      have := pow_pos' hB (l.length - 1)
      omega
  · rintro rfl; rfl
theorem norm_tail {x : Int} {l : List Int} (h : Norm (x :: l)) : Norm l := by
  intro h0
  have := h (by simp)
  rwa [List.getLast_cons h0] at this
theorem uniq {B : Int} (hB : 0 < B) : ∀ {l m : List Int}, Lim B l → Lim B m → Norm l → Norm m → val B l = val B m → l = m
  | [], m, _, hm, _, nm, e => ((val_zero_iff hB hm nm).1 e.symm).symm
  | l, [], hl, _, nl, _, e => (val_zero_iff hB hl nl).1 e
  | x :: l, y :: m, hl, hm, nl, nm, e => by
    simp only [val] at e
    have hx := hl x (by simp)
    have hy := hm y (by simp)
    have e1 : (x + B * val B l) % B = (y + B * val B m) % B := by rw [e]
    rw [Int.add_mul_emod_self_left, Int.add_mul_emod_self_left, Int.emod_eq_of_lt hx.1 hx.2, Int.emod_eq_of_lt hy.1 hy.2] at e1
    subst e1
    have e2 : val B l = val B m := Int.eq_of_mul_eq_mul_left (a := B) (by omega) (by omega)
    rw [uniq hB (fun z hz => hl z (by simp [hz])) (fun z hz => hm z (by simp [hz])) (norm_tail nl) (norm_tail nm) e2]
theorem len_le_iff {B : Int} (hB : 1 < B) {l : List Int} (h : Lim B l) (hn : Norm l) (n : Nat) : l.length ≤ n ↔ val B l < B ^ n := by
  have hB0 : 0 < B := by omega
  constructor
  · intro hl
    have h1 := val_lt hB0 h
    have h2 : B ^ l.length ≤ B ^ n := pow_mono (by omega) hl
    omega
  · intro hv
    apply Decidable.byContradiction
    intro hc
    have h0 : l ≠ [] := by rintro rfl; simp at hc
    have h1 := norm_le hB0 h hn h0
    have h2 : B ^ n ≤ B ^ (l.length - 1) := pow_mono (by omega) (by omega)
    omega
theorem norm_of_rd {l : List Int} (h : 0 < l.length → rd l (l.length - 1) ≠ 0) : Norm l := by
  intro h0
  have hl : 0 < l.length := List.length_pos_iff.2 h0
  have h1 := h hl
  rw [rd_at l _ (by omega)] at h1
  rw [List.getLast_eq_getElem]
  exact h1
theorem val_take_succ (B : Int) (l : List Int) (i : Nat) : val B (l.take (i + 1)) = val B (l.take i) + B ^ i * rd l i := by
  by_cases h : i < l.length
  · rw [List.take_succ_eq_append_getElem h, val_snoc, ← rd_at l i h, List.length_take, Nat.min_eq_left (by omega)]
  · rw [rd_out l i (by omega), List.take_of_length_le (by omega), List.take_of_length_le (by omega), Int.mul_zero, Int.add_zero]
def digs (B : Nat) (n : Nat) : List Int := if h : n = 0 ∨ B ≤ 1 then [] else ((n % B : Nat) : Int) :: digs B (n / B)
termination_by n
decreasing_by exact Nat.div_lt_self (by omega) (by omega)
theorem digs_zero (B : Nat) : digs B 0 = [] := by unfold digs; simp
theorem digs_pos {B n : Nat} (hB : 1 < B) (hn : 0 < n) : digs B n = ((n % B : Nat) : Int) :: digs B (n / B) := by rw [digs, dif_neg (by omega)]
theorem digs_spec {B : Nat} (hB : 1 < B) (n : Nat) : Lim B (digs B n) ∧ Norm (digs B n) ∧ val B (digs B n) = n := by
  induction n using Nat.strongRecOn with
  | _ n ih =>
    rcases Nat.eq_zero_or_pos n with rfl | hn
    · rw [digs_zero]; exact ⟨Lim.nil _, Norm.nil, rfl⟩
    · obtain ⟨h1, h2, h3⟩ := ih (n / B) (Nat.div_lt_self hn hB)
      rw [digs_pos hB hn]
      have hm := Nat.mod_lt n (show 0 < B by omega)
      refine ⟨h1.cons (by omega) (by omega), ?_, ?_⟩
      · intro h
        by_cases hd : digs B (n / B) = []
        · have h0 : n / B = 0 := by
            rw [hd] at h3
            simp [val] at h3
            omega
          simp only [hd, List.getLast_singleton]
          have := Nat.div_add_mod n B
          rw [h0] at this
          simp at this
          omega
        · rw [List.getLast_cons hd]; exact h2 hd
      · simp only [val, h3]
        have := Nat.div_add_mod n B
        have e : ((n % B : Nat) : Int) + (B : Int) * ((n / B : Nat) : Int) = ((B * (n / B) + n % B : Nat) : Int) := by push_cast; omega
        rw [e, this]
theorem digs_lim {B : Nat} (hB : 1 < B) (n : Nat) : Lim B (digs B n) := (digs_spec hB n).1
theorem digs_norm {B : Nat} (hB : 1 < B) (n : Nat) : Norm (digs B n) := (digs_spec hB n).2.1
theorem digs_val {B : Nat} (hB : 1 < B) (n : Nat) : val B (digs B n) = n := (digs_spec hB n).2.2
theorem digs_eq {B : Nat} (hB : 1 < B) {l : List Int} (h : Lim B l) (hn : Norm l) : digs B (val B l).toNat = l := by
  refine uniq (B := B) (by omega) (digs_lim hB _) h (digs_norm hB _) hn ?_
  rw [digs_val hB]
  exact Int.toNat_of_nonneg (val_nonneg (by omega) h)
theorem digsB_eq {l : List Int} (h : Lim 1000000000 l) (hn : Norm l) : digs 1000000000 (val 1000000000 l).toNat = l := digs_eq (B := 1000000000) (by omega) h hn
theorem digsT_eq {l : List Int} (h : Lim 10 l) (hn : Norm l) : digs 10 (val 10 l).toNat = l := digs_eq (B := 10) (by omega) h hn
theorem digsB_lim (n : Nat) : Lim 1000000000 (digs 1000000000 n) := digs_lim (B := 1000000000) (by omega) n
theorem digs_len {B : Nat} (hB : 1 < B) (n k : Nat) : (digs B n).length ≤ k ↔ n < B ^ k := by
  rw [len_le_iff (B := B) (by omega) (digs_lim hB n) (digs_norm hB n) k, digs_val hB]
  rw [← Int.natCast_pow]
  omega
theorem digs_nil {B : Nat} (hB : 1 < B) (n : Nat) : digs B n = [] ↔ n = 0 := by
  rw [← val_zero_iff (B := B) (by omega) (digs_lim hB n) (digs_norm hB n), digs_val hB]; omega
theorem pow9N (n : Nat) : (10 : Nat) ^ (9 * n) = 1000000000 ^ n := by rw [Nat.pow_mul]
def sv (s : Bool) (l : List Int) : Int := if s = true then - val 1000000000 l else val 1000000000 l
def bigN (z : Int) : Bool := decide (z < 0)
def bigL (z : Int) : List Int := digs 1000000000 z.natAbs
def U32 (l : List Int) : Prop := Lim 4294967296 l
theorem bigL_len (z : Int) (n : Nat) : (bigL z).length ≤ n ↔ z.natAbs < 1000000000 ^ n := digs_len (by omega) _ _
theorem bigL_nil (z : Int) : bigL z = [] ↔ z = 0 := by unfold bigL; rw [digs_nil (by omega)]; omega
end Go.Proofs.YtejefchehdifhaaDoor.Ev
end
section
set_option linter.unusedVariables false
namespace Go.Proofs.YtejefchehdifhaaDoor.Ev
open Go
def ints (k : IntKind) (l : List Int) : List (List FV) := l.map fun n => [FV.int k n]
theorem ints_len (k : IntKind) (l : List Int) : (ints k l).length = l.length := by simp [ints]
theorem ints_app (k : IntKind) (l m : List Int) : ints k l ++ ints k m = ints k (l ++ m) := by simp [ints]
theorem ints_snoc (k : IntKind) (l : List Int) (n : Int) : ints k l ++ [[FV.int k n]] = ints k (l ++ [n]) := by simp [ints]
theorem ints_take (k : IntKind) (l : List Int) (n : Nat) : (ints k l).take n = ints k (l.take n) := by simp [ints]
theorem ints_drop (k : IntKind) (l : List Int) (n : Nat) : (ints k l).drop n = ints k (l.drop n) := by simp [ints]
theorem ints_set (k : IntKind) (l : List Int) (i : Nat) (n : Int) : (ints k l).set i [FV.int k n] = ints k (l.set i n) := by simp [ints, List.map_set]
theorem ints_rep (k : IntKind) (m : Nat) (n : Int) : List.replicate m [FV.int k n] = ints k (List.replicate m n) := by simp [ints]
theorem ints_one (k : IntKind) (n : Int) : [[FV.int k n]] = ints k [n] := rfl
theorem ints_inj {k : IntKind} {l m : List Int} : ints k l = ints k m ↔ l = m := by
  constructor
  · intro h
    have : ∀ (l m : List Int), ints k l = ints k m → l = m := by
      intro l
      induction l with
      | nil => intro m h; cases m with | nil => rfl | cons => cases h
      | cons x l ih =>
        intro m h
        cases m with
        | nil => cases h
        | cons y m =>
          simp only [ints, List.map_cons, List.cons.injEq, FV.int.injEq] at h
          rw [h.1.1.2, ih m h.2]
    exact this l m h
  · rintro rfl; rfl
theorem ints_eq_nil {k : IntKind} {l : List Int} : ints k l = [] ↔ l = [] := ints_inj (m := [])
theorem ex_rd {k : IntKind} {l : List Int} {i : Nat} {Q : Int → Prop} : (∃ n : Int, (ints k l)[i]? = some [FV.int k n] ∧ Q n) ↔ (i < l.length ∧ Q (rd l i)) := by
  constructor
  · rintro ⟨n, h, hq⟩
    simp only [ints, List.getElem?_map, Option.map_eq_some_iff, List.cons.injEq, FV.int.injEq] at h
    obtain ⟨x, hx, ⟨_, rfl⟩, _⟩ := h
    refine ⟨?_, by rw [rd_some hx]; exact hq⟩
    exact (List.getElem?_eq_some_iff.1 hx).1
  · rintro ⟨h, hq⟩
    exact ⟨rd l i, by simp [ints, some_rd h], hq⟩
theorem dec_t (p : Prop) [Decidable p] (X : Prop) : ((decide p = true) → X) ↔ (p → X) := by simp
theorem dec_f (p : Prop) [Decidable p] (X : Prop) : ((decide p = false) → X) ↔ (¬ p → X) := by simp
theorem beq_t (a b : Int) (X : Prop) : (((a == b) = true) → X) ↔ (a = b → X) := by simp
theorem beq_f (a b : Int) (X : Prop) : (((a == b) = false) → X) ↔ (a ≠ b → X) := by simp
theorem bne_t (a b : Int) (X : Prop) : (((a != b) = true) → X) ↔ (a ≠ b → X) := by simp
theorem bne_f (a b : Int) (X : Prop) : (((a != b) = false) → X) ↔ (a = b → X) := by simp
theorem not_t (b : Bool) (X : Prop) : (((Bool.not b) = true) → X) ↔ (b = false → X) := by simp
theorem not_f (b : Bool) (X : Prop) : (((Bool.not b) = false) → X) ↔ (b = true → X) := by simp
theorem w64 {n : Int} (h0 : -9223372036854775808 ≤ n) (h1 : n ≤ 9223372036854775807) : IntKind.wrap .i64 n = n := IntWalk.i64_in n ⟨h0, h1⟩
theorem wu64 {n : Int} (h0 : 0 ≤ n) (h1 : n ≤ 18446744073709551615) : IntKind.wrap .u64 n = n := IntWalk.u64_in n ⟨h0, h1⟩
theorem wu32 {n : Int} (h0 : 0 ≤ n) (h1 : n ≤ 4294967295) : IntKind.wrap .u32 n = n := IntWalk.u32_in n ⟨h0, h1⟩
theorem wu8 {n : Int} (h0 : 0 ≤ n) (h1 : n ≤ 255) : IntKind.wrap .u8 n = n := IntWalk.u8_in n ⟨h0, h1⟩
theorem Wk_nil : Wk [] [] ↔ True := Iff.rfl
theorem Wk_cons (a b : Ob) (l m : List Ob) : Wk (a :: l) (b :: m) ↔ wk1 a b ∧ Wk l m := Iff.rfl
theorem wk1_same (a : Ob) : wk1 a a ↔ True := by simp [wk1.refl]
abbrev fzI (k : IntKind) (n : Int) : TV := .one (.fz (.int k n))
abbrev fzB (b : Bool) : TV := .one (.fz (.bool b))
abbrev fzS (k : IntKind) (l : List Int) : TV := .one (.fz (.sl 1 (ints k l)))
abbrev fzN (s : Bool) (l : List Int) : TV := .agg [.fz (.bool s), .fz (.sl 1 (ints .u32 l))]
theorem exR (v : TV) : ∃ R : TV → List Ob → Prop, R v [] ∧ (fun r' h' => r' = v ∧ h' = []) = R := ⟨_, ⟨rfl, rfl⟩, rfl⟩
end Go.Proofs.YtejefchehdifhaaDoor.Ev
end
section
set_option linter.unusedVariables false
set_option linter.unusedSimpArgs false
namespace Go.Proofs.YtejefchehdifhaaDoor.Ev
open Go
def uArg : Option FV → List TV
  | none => []
  | some x => [.one (.fz x)]
def callD (P : Program) (g : FuncId) (u : Option FV) (vals : Array Value) (w : World) (R : Ending → World → Prop) : Prop :=
  match u with
  | none => CallsD P g vals .returning w fun e u' w' => settle u' = .returning ∧ R e w'
  | some _ => CallsD P g vals.pop (.panicking [{ v := vals.back?.getD undef, recovered := false }]) w fun e u' w' => settle u' = .returning ∧ R e w'
def FnDf (P : Program) (g : FuncId) (args : List TV) (h : List Ob) (u : Option FV) (h' : List Ob) : Prop := FnC P (callD P g u) isRet (args ++ uArg u) h (.one .und) h'
theorem callD_mono {P : Program} {g : FuncId} {u : Option FV} (vals : Array Value) (w : World) (R R' : Ending → World → Prop) (h : ∀ e w', R e w' → R' e w') (hc : callD P g u vals w R) : callD P g u vals w R' := by
  unfold callD at hc ⊢
  cases u <;> exact CallsD.mono hc fun e u' w' ⟨h1, h2⟩ => ⟨h1, h e w' h2⟩
def evCallDf (P : Program) (ss : List Sig) (g : FuncId) (args : List TV) (h : List Ob) (u : Option FV) (K : List Ob → Prop) : Prop :=
  match P.funcs[g]? with
  | some fn =>
    if fn.body.isSome = true ∧ (fn.name == "runtime.NumGoroutine") = false then
      match shareArgs h (shOf ss) args with
      | some (ags, rd) =>
        let ids := idsH h 64 0 (idsT ags [])
        if ids.Nodup ∧ (ids.all fun o => okOb (getO h o) && !rd.contains o) = true then
          orS (ss.filter fun S => S.n == ids.length) fun S => exOb S.obs fun obs => FnDf P g (ags.map (reT ids)) (ids.map fun o => reO ids (getO h o)) u obs ∧
            if ids.length ≤ obs.length then K (putOs h (zs h rd ++ backW ids h.length 0 obs)) else False
        else False
      | none => False
    else False
  | none => False
theorem shareArgs_snoc {h : List Ob} {x : FV} : ∀ {m : Nat} {ts rs : List TV} {i : List Nat}, shareArgs h m ts = some (rs, i) → shareArgs h m (ts ++ [.one (.fz x)]) = some (rs ++ [.one (.fz x)], i)
  | m, [], rs, i, hs => by
    cases hs
    simp only [List.nil_append, shareArgs]
    split
    · rfl
    · rfl
  | m, a :: r, rs, i, hs => by
    unfold shareArgs at hs
    simp only [List.cons_append]
    unfold shareArgs
    split at hs
    · rename_i l j hl
      rw [shareArgs_snoc hl]
      simp only
      split at hs
      · rename_i hp
        cases hs
        rw [if_pos hp]; rfl
      · rename_i hp
        rw [if_neg hp]
        split at hs
        · rename_i v i1 hv
          cases hs
          rfl
        · cases hs
    · cases hs
theorem shareArgs_u {h : List Ob} {u : Option FV} {m : Nat} {ts rs : List TV} {i : List Nat} (hs : shareArgs h m ts = some (rs, i)) : shareArgs h m (ts ++ uArg u) = some (rs ++ uArg u, i) := by
  cases u with
  | none => simpa [uArg] using hs
  | some x => exact shareArgs_snoc hs
def PtrAt (pin : Nat → Option Loc) (av : AV) (v : Value) : Prop :=
  ∃ o e c ty l ad, av = .ptr o e c ty ∧ pin o = some l ∧ l.a = some ad ∧ v = .pointer (some ⟨ad.block, ad.off + e * l.sz + c, none⟩)
def DefTold (pin : Nat → Option Loc) (d : Deferred) (p : FuncId × List AV) : Prop :=
  ∃ caps aus, d = { target := .fn (.func p.1) caps, args := aus } ∧ (aus ++ caps).size = p.2.length ∧ ∀ (k : Nat) (av : AV), p.2[k]? = some av → ∃ v, (aus ++ caps)[k]? = some v ∧ PtrAt pin av v
def resD (P : Program) (sig : FuncId → List Sig) (F : Func) (own : Option Nat) (R : TV → List Ob → Prop) : List (FuncId × List AV) → Option FV → St → Prop
  | [], none, st => resK P F own R st
  | [], some _, _ => False
  | (g, avs) :: r, u, st => evCallDf P (sig g) g (avs.map .one) st.h u fun h' => resD P sig F own R r none ⟨st.t, h'⟩
def uMode (u : Option FV) (v : Value) : FrameMode :=
  match u with
  | none => .returning
  | some _ => .panicking [{ v, recovered := false }]
def uSt (u : Option FV) (st : St) : St := ⟨st.t ++ uArg u, st.h⟩
def uAct (u : Option FV) (v : Value) (a : Act) : Act :=
  match u with
  | none => a
  | some _ => { a with tmps := a.tmps.push v }
section
variable {P : Program} {ext : Nat → Prop} {w0 : World} {own0 : Own0}
theorem uRep {u : Option FV} {st : St} {v : Value} {a : Act} {w : World} {own1 : Own0} (R : Rep P ext w0 own1 (uSt u st) (uAct u v a) w) : ∃ locs, RepH P ext w0 own1 locs st.h w ∧ (a.tmps.size = st.t.length ∧ (uAct u v a).defers = a.defers) ∧
    (∀ (i : Nat) (x : TV), st.t[i]? = some x → ∃ y, a.tmps[i]? = some y ∧ RT w (Bar ext locs st.h) locs x y) ∧ ∀ x, u = some x → RF w (Bar ext locs st.h) x v := by
  obtain ⟨locs, H, RTm⟩ := R.repT
  cases u with
  | none =>
    refine ⟨locs, H, ⟨by simpa [uSt, uArg, uAct] using R.size, rfl⟩, fun i x hx => ?_, by simp⟩
    exact RTm i x (by simpa [uSt, uArg] using hx)
  | some y =>
    have hs : a.tmps.size = st.t.length := by simpa [uSt, uArg, uAct] using R.size
    refine ⟨locs, H, ⟨hs, rfl⟩, fun i x hx => ?_, fun x hx => ?_⟩
    · have hi : i < st.t.length := (List.getElem?_eq_some_iff.1 hx).1
      obtain ⟨z, hz, hr⟩ := RTm i x (by simp only [uSt]; rw [List.getElem?_append_left hi]; exact hx)
      refine ⟨z, ?_, hr⟩
      simp only [uAct] at hz
      rw [Array.getElem?_push, if_neg (by omega)] at hz
      exact hz
    · cases hx
      obtain ⟨z, hz, hr⟩ := RTm st.t.length (.one (.fz y)) (by simp [uSt, uArg])
      simp only [uAct] at hz
      rw [Array.getElem?_push, if_pos hs.symm] at hz
      cases hz
      exact hr
theorem resD_ok {sig : FuncId → List Sig} {F : Func} {own : Option Nat} (hp : PinLt own0 (own.getD 0)) {G : TV → List Ob → Prop} {pin1 : Nat → Option Loc} {D1 : List Deferred} (hpin : ∀ (o : Nat) (x : Loc), own0.pin o = some x → pin1 o = some x) :
    ∀ (dfs : List (FuncId × List AV)) (D : List Deferred) (u : Option FV) (st : St) (v : Value) (a : Act) (w : World), D.length = dfs.length → (∀ (i : Nat) (d : Deferred) (p : FuncId × List AV), D[i]? = some d → dfs[i]? = some p → DefTold pin1 d p) →
      resD P sig F own G dfs u st → Rep P ext w0 ⟨own0.b, pin1, D1⟩ (uSt u st) (uAct u v a) w →
      Leaves P F a.tmps (fun e w' => ∃ v r' h' locs', G r' h' ∧ e = .returned v ∧ RepH P ext w0 own0 locs' h' w' ∧ RT w' (Bar ext locs' h') locs' r' v) D (uMode u v) w
  | [], D, u, st, v, a, w, hl, hD, hr, R => by
    have : D = [] := List.eq_nil_of_length_eq_zero hl
    subst this
    cases u with
    | some x => exact hr.elim
    | none =>
      obtain ⟨locs, H, ⟨hs, _⟩, RTm, _⟩ := uRep R
      have R0 : Rep P ext w0 own0 st { a with defers := own0.df } w := ⟨rfl, hs, locs, ⟨H.len, H.ob, H.apart, H.extOwn, H.extlt, H.ownOld, H.since, H.base, fun o x hx => H.pins o x (hpin o x hx)⟩, RTm⟩
      obtain ⟨v', r', h', locs', h1, h2, h3, h4⟩ := resK_ok hp hr R0
      exact ⟨v', h1, v', r', h', locs', h2, rfl, h3, h4⟩
  | p :: dfs, [], u, st, v, a, w, hl, hD, hr, R => by simp at hl
  | (g, avs) :: dfs, d :: D, u, st, v, a, w, hl, hD, hr, R => by
    obtain ⟨caps, aus, rfl, hsz, hav⟩ := hD 0 d (g, avs) rfl rfl
    simp only at hsz hav
    unfold resD evCallDf at hr
    split at hr
    · rename_i fn hfn
      split at hr
      · rename_i hc
        obtain ⟨hb, hnm⟩ := hc
        split at hr
        · rename_i ags rd hs
          simp only at hr
          split at hr
          · rename_i hcond
            obtain ⟨hn, hok⟩ := hcond
            obtain ⟨S, hr⟩ := orS_out hr
            obtain ⟨obs, ⟨Fd, hk⟩, hrs⟩ := exOb_out hr
            split at hk
            · rename_i hlen
              generalize idsH st.h 64 0 (idsT ags []) = ids at *
              obtain ⟨locs, H, ⟨hts, hdf⟩, RTm, hx⟩ := uRep R
              have hmu : uMode u v ≠ .run := by cases u <;> simp [uMode]
              let vals : Array Value := match u with | none => aus ++ caps | some _ => (aus ++ caps).push v
              have hvsz : vals.size = (avs.map TV.one ++ uArg u).length := by
                cases u <;> simp [vals, uArg] <;> simp at hsz <;> omega
              have hrep : ∀ (i : Nat) (x : TV), (avs.map TV.one ++ uArg u)[i]? = some x → ∃ y, vals[i]? = some y ∧ RT w (Bar ext locs st.h) locs x y := by
                intro i x hi
                by_cases hlt : i < avs.length
                · rw [List.getElem?_append_left (by simpa using hlt), List.getElem?_map, Option.map_eq_some_iff] at hi
                  obtain ⟨av, h1, rfl⟩ := hi
                  obtain ⟨y, h2, o, e, c, ty, l, ad, rfl, h3, h4, rfl⟩ := hav i av h1
                  refine ⟨_, ?_, l, ad, H.pins o l h3, h4, rfl⟩
                  cases u with
                  | none => exact h2
                  | some z =>
                    simp only [vals]
                    rw [Array.getElem?_push, if_neg (by omega)]
                    exact h2
                · rw [List.getElem?_append_right (by simpa using hlt)] at hi
                  cases u with
                  | none => simp [uArg] at hi
                  | some z =>
                    simp only [uArg, List.length_map] at hi
                    have hi0 : i - avs.length = 0 := by
                      rcases Nat.eq_zero_or_pos (i - avs.length) with h' | h'
                      · exact h'
                      · rw [List.getElem?_eq_none (by simp; omega)] at hi; cases hi
                    rw [hi0] at hi
                    cases hi
                    refine ⟨v, ?_, hx z rfl⟩
                    simp only [vals]
                    rw [Array.getElem?_push, if_pos (by omega)]
              have hru : (uArg u).map (reT ids) = uArg u := by cases u <;> rfl
              have Fd' : FnC P (callD P g u) isRet ((ags ++ uArg u).map (reT ids)) (ids.map fun o => reO ids (getO st.h o)) (toTV [(false, [.und])]) obs := by
                rw [List.map_append, hru]; exact Fd
              have key := callS_core (C := callD P g u) (E := isRet) (id := st.h.length) (fun vals w R R' => callD_mono vals w R R') H (shareArgs_u (u := u) hs) hn hok hrs hlen (Nat.le_refl _) (fun j _ => H.len _ (Nat.le_add_right _ _)) Fd' hvsz hrep
              have fin : ∀ (e : Ending) (w' : World) (vr : Value) (locs' : Nat → Option Loc), isRet e vr → RepH P ext w0 ⟨own0.b, pin1, D1⟩ locs' (putOs st.h (zs st.h rd ++ backW ids st.h.length 0 obs)) w' →
                  Later w (Bar ext locs st.h) w' (Bar ext locs' (putOs st.h (zs st.h rd ++ backW ids st.h.length 0 obs))) → (∀ (o : Nat) (x : Loc), locs o = some x → locs' o = some x) →
                  Leaves P F a.tmps (fun e w' => ∃ v r' h' locs', G r' h' ∧ e = .returned v ∧ RepH P ext w0 own0 locs' h' w' ∧ RT w' (Bar ext locs' h') locs' r' v) D .returning w' := by
                intro e w' vr locs' _ H' lt hlo
                refine resD_ok (D1 := D1) hp hpin dfs D none ⟨st.t, putOs st.h (zs st.h rd ++ backW ids st.h.length 0 obs)⟩ undef { a with defers := D1 } w' (by simpa using hl) (fun i d p h1 h2 => hD (i + 1) d p h1 h2) hk ?_
                exact ⟨rfl, by simpa [uSt, uArg, uAct] using hts, locs', H', fun i x hx => by
                  obtain ⟨y, hy, hr⟩ := RTm i x (by simpa [uSt, uArg] using hx)
                  exact ⟨y, hy, hr.later lt hlo⟩⟩
              refine leaves_cons hmu (f := g) (args := aus ++ caps) ?_ ?_
              · show (callFunc g (aus ++ caps)).run P w = _
                exact run_callFunc hfn hb hnm _ _
              · unfold callD at key
                cases u with
                | none =>
                  simp only [vals] at key
                  refine CallsD.mono key ?_
                  rintro e u' w' ⟨hu, vr, locs', he, H', lt, hlo, _⟩
                  cases he
                  simp only
                  rw [hu]
                  exact fin _ w' vr locs' rfl H' lt hlo
                | some z =>
                  simp only [vals, Array.pop_push, Array.back?_push, Option.getD_some] at key
                  refine CallsD.mono key ?_
                  rintro e u' w' ⟨hu, vr, locs', he, H', lt, hlo, _⟩
                  cases he
                  simp only
                  rw [hu]
                  exact fin _ w' vr locs' rfl H' lt hlo
            · exact hk.elim
          · exact hr.elim
        · exact hr.elim
      · exact hr.elim
    · exact hr.elim
end
def ptrsOf (t : List TV) : List Operand → Option (List AV)
  | [] => some []
  | x :: r => match ev t x, ptrsOf t r with
    | .one (.ptr o e c ty), some l => some (.ptr o e c ty :: l)
    | _, _ => none
def dfOp (o : Oper) : Bool := match o.op with | .defer _ => true | _ => false
def dfReg : Code → Option (List Oper)
  | .region _ ops false => if (ops.toList.getLast?).any dfOp = true then some ops.toList else none
  | _ => none
def hasDf : Code → Bool
  | .seq a b => (dfReg a).isSome || hasDf b
  | _ => false
def evDefer (ops : List Oper) (st : St) : Option ((FuncId × List AV) × St) :=
  match ops with
  | [m, d] =>
    match m.dst, m.op, m.guard, d.dst, d.op, d.guard with
    | some k, .makeFunc (.func g) first caps, none, none, .defer { callee := .value (.tmp k'), args := args, argTypes := _ }, none =>
      if k = k' ∧ first = #[] ∧ args = #[] ∧ k < st.t.length then
        match ptrsOf st.t caps.toList with
        | some avs => some ((g, avs), ⟨st.t.set k .und, st.h⟩)
        | none => none
      else none
    | _, _, _, _, _, _ => none
  | [d] =>
    match d.dst, d.op, d.guard with
    | none, .defer { callee := .value (.func g), args := args, argTypes := _ }, none =>
      match ptrsOf st.t args.toList with
      | some avs => some ((g, avs), st)
      | none => none
    | _, _, _ => none
  | _ => none
def Mode.df (P : Program) (M : Mode) (F : Func) (own : Option Nat) (R : TV → List Ob → Prop) (n : Nat) (cur : List (FuncId × List AV)) : Mode :=
  ⟨M.own, M.sig, if cur.isEmpty then own.getD 0 else n, M.mp, fun x st => resD P M.sig F own R cur (some x) ⟨st.t, st.h⟩, M.cl⟩
def trSp (P : Program) (M : Mode) (lv : List Nat → Keep) (F : Func) (own : Option Nat) (R : TV → List Ob → Prop) (n : Nat) (cur : List (FuncId × List AV)) (p : List Nat) (c : Code) : SP :=
  if hasDf c = true then
    match c with
    | .seq a b =>
      match dfReg a with
      | some ops => fun st =>
        match evDefer ops st with
        | some (d, st') => if st.h.length = n then trSp P M lv F own R n (d :: cur) (1 :: p) b st' else False
        | none => False
      | none => tr P (M.df P F own R n cur) lv (0 :: p) a (trSp P M lv F own R n cur (1 :: p) b) (fun _ _ => False) (resD P M.sig F own R cur none)
    | _ => fun _ => False
  else tr P (M.df P F own R n cur) lv p c (resD P M.sig F own R cur none) (fun _ _ => False) (resD P M.sig F own R cur none)
def trFD (P : Program) (M : Mode) (lv : List Nat → Keep) (F : Func) (own : Option Nat) (n : Nat) (args : List TV) (h : List Ob) (R : TV → List Ob → Prop) : Prop :=
  match F.body with
  | some c => trSp P M lv F own R n [] [] c ⟨args ++ List.replicate (F.ntmps - args.length) .und, h⟩
  | none => False
def LoopAtD (P : Program) (M : Mode) (lv : List Nat → Keep) (F : Func) (own : Option Nat) (R : TV → List Ob → Prop) (n : Nat) (cur : List (FuncId × List AV)) (path : List Nat) (st : St) : Prop :=
  match F.body with
  | some c => walk P (M.df P F own R n cur) lv path [] c (resD P M.sig F own R cur none) (fun _ _ => False) (resD P M.sig F own R cur none) fun p c kn ke kr => match c with
    | .loop c => LoopJ P (M.df P F own R n cur) c ke kr st
    | _ => False
  | none => False
def RoundD (P : Program) (M : Mode) (lv : List Nat → Keep) (F : Func) (own : Option Nat) (R : TV → List Ob → Prop) (n : Nat) (cur : List (FuncId × List AV)) (path : List Nat) (st : St) : Prop :=
  match F.body with
  | some c => walk P (M.df P F own R n cur) lv path [] c (resD P M.sig F own R cur none) (fun _ _ => False) (resD P M.sig F own R cur none) fun p c kn ke kr => match c with
    | .loop c => tr P (M.df P F own R n cur) lv (0 :: p) c (fun st' => LoopJ P (M.df P F own R n cur) c ke kr (norm (M.df P F own R n cur).pin (lv p) st')) ke kr st
    | _ => False
  | none => False
theorem LoopAtD.intro {P : Program} {M : Mode} {lv : List Nat → Keep} {F : Func} {own : Option Nat} {R : TV → List Ob → Prop} {n : Nat} {cur : List (FuncId × List AV)} {path : List Nat} {st : St} (hm : P.follows .mixedOrders = true) (h : RoundD P M lv F own R n cur path st) : LoopAtD P M lv F own R n cur path st := by
  unfold RoundD at h
  unfold LoopAtD
  split
  · rename_i c hc
    rw [hc] at h
    refine walk_imp (fun p c kn ke kr h => ?_) path _ _ _ _ _ h
    cases c <;> first | exact LoopJ.intro (M := M.df P F own R n cur) hm _ _ h | exact h
  · rename_i hc
    rw [hc] at h
    exact h
theorem LoopAtD.by_tr {P : Program} {M : Mode} {lv : List Nat → Keep} {F : Func} {own : Option Nat} {R : TV → List Ob → Prop} {n : Nat} {cur : List (FuncId × List AV)} {path : List Nat} {st : St} {X : Prop} (hm : P.follows .mixedOrders = true) (he : RoundD P M lv F own R n cur path st = X) (H : X) : LoopAtD P M lv F own R n cur path st :=
  LoopAtD.intro hm (Eq.mpr he H)
section
variable {P : Program} {ext : Nat → Prop} {w0 : World} {own0 : Own0}
theorem ptrsOf_ok {t : List TV} {h : List Ob} {locs : Nat → Option Loc} {w : World} {a : Act} (RTm : RepT w (Bar ext locs h) locs t a) : ∀ {xs : List Operand} {avs : List AV}, ptrsOf t xs = some avs → xs.length = avs.length ∧ ∀ (k : Nat) (av : AV), avs[k]? = some av → ∃ v, (xs.map a.eval)[k]? = some v ∧ PtrAt locs av v
  | [], avs, hh => by cases hh; exact ⟨rfl, by simp⟩
  | x :: r, avs, hh => by
    unfold ptrsOf at hh
    split at hh
    · rename_i o e c ty l hx hl
      cases hh
      obtain ⟨h1, h2⟩ := ptrsOf_ok RTm hl
      refine ⟨by simp [h1], fun k av hk => ?_⟩
      cases k with
      | zero =>
        cases hk
        have hr := ev_rep RTm x
        rw [hx] at hr
        obtain ⟨lc, d, g1, g2, g3⟩ := hr
        exact ⟨_, rfl, o, e, c, ty, lc, d, rfl, g1, g2, g3⟩
      | succ k => exact h2 k av hk
    · cases hh
theorem evDefer_ok {ops : List Oper} {st st' : St} {d : FuncId × List AV} (he : evDefer ops st = some (d, st')) {a : Act} {w : World} (R : Rep P ext w0 own0 st a w) {id : Nat} {Q : Exit → Act → World → Prop}
    (hQ : ∀ (locs : Nat → Option Loc) (dd : Deferred) (a' : Act), RepH P ext w0 own0 locs st.h w → DefTold locs dd d → a'.defers = dd :: own0.df → a'.tmps.size = st'.t.length → st'.h = st.h → (∀ (i : Nat) (x : TV), st'.t[i]? = some x → ∃ v, a'.tmps[i]? = some v ∧ RT w (Bar ext locs st'.h) locs x v) → Q .normal a' w) :
    (Code.region id ops.toArray false).wp P Q a w := by
  obtain ⟨locs, H, RTm⟩ := R.repT
  unfold evDefer at he
  split at he
  · rename_i m dd
    split at he
    · rename_i k g first caps k' args _ hk hm hg hd hdo hdg
      split at he
      · rename_i hc
        obtain ⟨rfl, rfl, rfl, hkl⟩ := hc
        split at he
        · rename_i avs hp
          cases he
          obtain ⟨h1, h2⟩ := ptrsOf_ok (ext := ext) (h := st.h) RTm hp
          refine wp_region ?_
          show wpOps P #[m, dd] Q [0, 1] a w
          unfold wpOps
          simp only [List.getElem?_toArray, List.getElem?_cons_zero]
          have hw : Region.wanted m (yielded #[m, dd] a.tmps) = true := by unfold Region.wanted; rw [hg]
          rw [if_pos hw]
          left
          have hks : k < a.tmps.size := by rw [R.size]; exact hkl
          refine wp_value (v := .func (.func g) #[] (caps.map a.eval)) (w' := w) (by unfold execOp; rw [hm]; simp [Instr.makeFunc]) ?_
          unfold wpOps
          simp only [List.getElem?_toArray, List.getElem?_cons_succ, List.getElem?_cons_zero]
          have hw2 : ∀ f, Region.wanted dd f = true := by intro f; unfold Region.wanted; rw [hdg]
          rw [if_pos (hw2 _)]
          left
          have hev : (a.put m.dst (.func (.func g) #[] (caps.map a.eval))).eval (.tmp k) = .func (.func g) #[] (caps.map a.eval) := by
            rw [hk]
            simp [Act.put, Act.eval, hks]
          have hrun : (execOp (a.put m.dst (.func (.func g) #[] (caps.map a.eval))).eval dd).run P w = .ok (.defer { target := .fn (.func g) (caps.map a.eval), args := #[] }) w := by
            unfold execOp
            rw [hdo]
            simp [resolve, hev, Deferred.ofValue]
          unfold Oper.wp
          rw [hrun]
          simp only [Oper.upon_defer]
          unfold wpOps
          refine hQ locs { target := .fn (.func g) (caps.map a.eval), args := #[] } _ H ⟨caps.map a.eval, #[], rfl, by simpa using h1, fun k av hk => ?_⟩ ?_ ?_ rfl (fun i x hx => ?_)
          · obtain ⟨v, h3, h4⟩ := h2 k av hk
            exact ⟨v, by simpa using h3, h4⟩
          · rw [hd, hk]
            simp only [Act.put]
            rw [R.defers]
          · rw [hd, hk]
            simp only [Act.put, Array.size_setIfInBounds, List.length_set]
            exact R.size
          · rw [hd, hk]
            simp only [Act.put]
            simp only at hx
            rw [List.getElem?_set] at hx
            by_cases e : k = i
            · subst e
              rw [if_pos rfl, if_pos hkl] at hx
              cases hx
              exact ⟨_, by rw [Array.getElem?_setIfInBounds_self_of_lt hks], trivial⟩
            · rw [if_neg e] at hx
              obtain ⟨u, hu, hr⟩ := RTm i x hx
              exact ⟨u, by rw [Array.getElem?_setIfInBounds_ne e]; exact hu, hr⟩
        · cases he
      · cases he
    · cases he
  · rename_i dd
    split at he
    · rename_i g args _ hd hdo hdg
      split at he
      · rename_i avs hp
        cases he
        obtain ⟨h1, h2⟩ := ptrsOf_ok (ext := ext) (h := st.h) RTm hp
        refine wp_region ?_
        show wpOps P #[dd] Q [0] a w
        unfold wpOps
        simp only [List.getElem?_toArray, List.getElem?_cons_zero]
        have hw2 : ∀ f, Region.wanted dd f = true := by intro f; unfold Region.wanted; rw [hdg]
        rw [if_pos (hw2 _)]
        left
        have hrun : (execOp a.eval dd).run P w = .ok (.defer { target := .fn (.func g) #[], args := args.map a.eval }) w := by
          unfold execOp
          rw [hdo]
          simp [resolve, Act.eval, Deferred.ofValue]
        unfold Oper.wp
        rw [hrun]
        simp only [Oper.upon_defer]
        unfold wpOps
        refine hQ locs { target := .fn (.func g) #[], args := args.map a.eval } _ H ⟨#[], args.map a.eval, rfl, by simpa using h1, fun k av hk => ?_⟩ ?_ ?_ rfl (fun i x hx => ?_)
        · obtain ⟨v, h3, h4⟩ := h2 k av hk
          exact ⟨v, by simpa using h3, h4⟩
        · rw [hd]
          simp only [Act.put]
          rw [R.defers]
        · rw [hd]
          exact R.size
        · rw [hd]
          exact RTm i x hx
      · cases he
    · cases he
  · cases he
end
end Go.Proofs.YtejefchehdifhaaDoor.Ev
end
section
set_option linter.unusedVariables false
set_option linter.unusedSimpArgs false
namespace Go.Proofs.YtejefchehdifhaaDoor.Ev
open Go
section
variable {P : Program} {ext : Nat → Prop} {w0 : World} {own0 : Own0}
def EndG (P : Program) (ext : Nat → Prop) (w0 : World) (own0 : Own0) (G : TV → List Ob → Prop) (e : Ending) (w' : World) : Prop :=
  ∃ v r' h' locs', G r' h' ∧ e = .returned v ∧ RepH P ext w0 own0 locs' h' w' ∧ RT w' (Bar ext locs' h') locs' r' v
theorem qk_post {M : Mode} {F : Func} {own : Option Nat} (hp : PinLt own0 (own.getD 0)) {G : TV → List Ob → Prop} {pin1 : Nat → Option Loc} {D : List Deferred} (hpin : ∀ (o : Nat) (x : Loc), own0.pin o = some x → pin1 o = some x) {n : Nat}
    {cur : List (FuncId × List AV)} (hl : D.length = cur.length) (hD : ∀ (i : Nat) (d : Deferred) (p : FuncId × List AV), D[i]? = some d → cur[i]? = some p → DefTold pin1 d p) (e : Exit) (a : Act) (w : World)
    (hq : QK P (M.df P F own G n cur) ext w0 ⟨own0.b, pin1, D⟩ (resD P M.sig F own G cur none) (fun _ _ => False) (resD P M.sig F own G cur none) e a w) : bodyPostD P F (EndG P ext w0 own0 G) e a w := by
  have ret : ∀ st, resD P M.sig F own G cur none st → Rep P ext w0 ⟨own0.b, pin1, D⟩ st a w → Leaves P F a.tmps (EndG P ext w0 own0 G) a.defers .returning w := by
    intro st hk R
    have h1 := resD_ok (D1 := D) hp hpin cur D none st undef a w hl hD hk (by simpa [uSt, uArg, uAct] using R)
    rw [show a.defers = D from R.defers]
    exact h1
  cases e with
  | normal => obtain ⟨st, hk, R⟩ := hq; exact ret st hk R
  | ret => obtain ⟨st, hk, R⟩ := hq; exact ret st hk R
  | exit i => obtain ⟨st, hk, _⟩ := hq; exact hk.elim
  | panic ch =>
    obtain ⟨v, x, st, rfl, hk, R⟩ := hq
    have h1 := resD_ok (D1 := D) hp hpin cur D (some x) st v a w hl hD hk (by simpa [uSt, uArg, uAct] using R)
    have hd : a.defers = D := R.defers
    show Leaves P F a.tmps (EndG P ext w0 own0 G) a.defers _ w
    rw [hd]
    exact h1
  | _ => exact hq.elim
theorem trSp_ok {M : Mode} {lv : List Nat → Keep} {F : Func} {own : Option Nat} (hm : P.follows .mixedOrders = true) (hp : PinLt own0 (own.getD 0)) {G : TV → List Ob → Prop} {n : Nat} : ∀ (c : Code) (p : List Nat) (cur : List (FuncId × List AV)) (D : List Deferred) (pin1 : Nat → Option Loc) (st : St) (a : Act) (w : World),
    D.length = cur.length → (∀ (i : Nat) (d : Deferred) (p : FuncId × List AV), D[i]? = some d → cur[i]? = some p → DefTold pin1 d p) → PinLt ⟨own0.b, pin1, D⟩ (M.df P F own G n cur).pin → (∀ (o : Nat) (x : Loc), own0.pin o = some x → pin1 o = some x) →
    trSp P M lv F own G n cur p c st → Rep P ext w0 ⟨own0.b, pin1, D⟩ st a w → c.wp P (bodyPostD P F (EndG P ext w0 own0 G)) a w := by
  intro c
  induction c with
  | seq x y ihx ihy =>
    intro p cur D pin1 st a w hl hD hpl hpin h R
    unfold trSp at h
    split at h
    · simp only at h
      cases hops : dfReg x with
      | some ops =>
        simp only [hops] at h
        split at h
        · rename_i d st' he
          split at h
          · rename_i hn
            have hx : ∃ id, x = .region id ops.toArray false := by
              unfold dfReg at hops
              split at hops
              · split at hops
                · rename_i id0 ops0 _ _
                  cases hops; exact ⟨id0, by simp⟩
                · cases hops
              · cases hops
            obtain ⟨id, rfl⟩ := hx
            refine wp_seq (evDefer_ok he R ?_)
            intro locs dd a' H hdt hdf hsz hh hsl
            refine ihy _ (d :: cur) (dd :: D) locs st' a' w (by simp [hl]) (fun i d' p' h1 h2 => ?_) ?_ (fun o x hx => H.pins o x (hpin o x hx)) h ⟨hdf, hsz, locs, ?_, hsl⟩
            · cases i with
              | zero => cases h1; cases h2; exact hdt
              | succ i =>
                obtain ⟨caps, aus, g1, g2, g3⟩ := hD i d' p' h1 h2
                refine ⟨caps, aus, g1, g2, fun k av hk => ?_⟩
                obtain ⟨v, g4, o, e, c, ty, l, ad, g5, g6, g7⟩ := g3 k av hk
                exact ⟨v, g4, o, e, c, ty, l, ad, g5, H.pins o l g6, g7⟩
            · intro o x hx
              show o < n
              rcases Nat.lt_or_ge o n with h1 | h1
              · exact h1
              · have := H.len o (by rw [hn]; exact h1)
                rw [show locs o = some x from hx] at this; cases this
            · rw [hh]
              exact ⟨H.len, H.ob, H.apart, H.extOwn, H.extlt, H.ownOld, H.since, H.base, fun o x hx => hx⟩
          · exact h.elim
        · exact h.elim
      | none =>
        simp only [hops] at h
        refine wp_seq (wp_mono (tr_ok (M := M.df P F own G n cur) hm hpl x _ _ _ _ _ _ _ h R) fun e a' w' hq => ?_)
        cases e with
        | normal =>
          obtain ⟨st', hk, R'⟩ := hq
          exact ihy _ cur D pin1 st' a' w' hl hD hpl hpin hk R'
        | exit i => obtain ⟨st', hk, _⟩ := hq; exact hk.elim
        | ret => exact qk_post (n := n) hp hpin hl hD .ret a' w' hq
        | panic ch => exact qk_post (n := n) hp hpin hl hD (.panic ch) a' w' hq
        | _ => exact hq.elim
    · exact wp_mono (tr_ok (M := M.df P F own G n cur) hm hpl _ _ _ _ _ _ _ _ h R) fun e a' w' hq => qk_post (n := n) hp hpin hl hD e a' w' hq
  | _ =>
    intro p cur D pin1 st a w hl hD hpl hpin h R
    unfold trSp at h
    split at h
    · exact h.elim
    · exact wp_mono (tr_ok (M := M.df P F own G n cur) hm hpl _ _ _ _ _ _ _ _ h R) fun e a' w' hq => qk_post (n := n) hp hpin hl hD e a' w' hq
end
theorem rep0 {P : Program} {ext : Nat → Prop} {w : World} {locs : Nat → Option Loc} {args : List TV} {h : List Ob} {vals : Array Value} (H : RepH P ext w ⟨ownB locs h, locs, []⟩ locs h w) (hsz : vals.size = args.length) (hrep : ∀ (i : Nat) (x : TV), args[i]? = some x → ∃ v, vals[i]? = some v ∧ RT w (Bar ext locs h) locs x v) (m : Nat) :
    Rep P ext w ⟨ownB locs h, locs, []⟩ ⟨args ++ List.replicate (m - args.length) .und, h⟩ { tmps := vals ++ Array.replicate (m - vals.size) undef, defers := [] } w := by
  refine ⟨rfl, by simp [hsz], locs, H, fun i x hx => ?_⟩
  simp only at hx
  by_cases hi : i < args.length
  · rw [List.getElem?_append_left hi] at hx
    obtain ⟨v, hv, hr⟩ := hrep i x hx
    exact ⟨v, by rw [Array.getElem?_append_left (by omega)]; exact hv, hr⟩
  · rw [List.getElem?_append_right (by omega), List.getElem?_replicate] at hx
    split at hx
    · cases hx
      refine ⟨undef, ?_, trivial⟩
      rw [Array.getElem?_append_right (by omega)]
      simp only [Array.getElem?_replicate]
      rw [if_pos (by omega)]
    · cases hx
theorem pin0 {P : Program} {ext : Nat → Prop} {w : World} {locs : Nat → Option Loc} {h : List Ob} (H : RepH P ext w ⟨ownB locs h, locs, []⟩ locs h w) {n : Nat} (hn : h.length ≤ n) : PinLt ⟨ownB locs h, locs, []⟩ n := by
  intro o x hx
  rcases Nat.lt_or_ge o h.length with h1 | h1
  · omega
  · have := H.len o h1
    rw [show locs o = some x from hx] at this; cases this
theorem Fn.of_trD {P : Program} {M : Mode} {lv : List Nat → Keep} {f : FuncId} {F : Func} {own : Option Nat} {n : Nat} {args : List TV} {h : List Ob} {r : TV} {h' : List Ob} (hm : P.follows .mixedOrders = true) (hf : P.funcs[f]? = some F) (hn : h.length ≤ own.getD 0)
    (ht : trFD P M lv F own n args h fun r' h'' => r' = r ∧ Wk h'' h') : Fn P f args h r h' := by
  intro ext w locs vals H hsz hrep
  unfold trFD at ht
  split at ht
  · rename_i c hc
    refine (calls_of_wp_defers hf hc (trSp_ok (own0 := ⟨ownB locs h, locs, []⟩) hm (pin0 H hn) c _ [] [] locs _ _ _ rfl (by simp) (pin0 H hn) (fun _ _ h => h) ht (rep0 H hsz hrep _))).mono ?_
    rintro e w' ⟨v, r', h'', locs', ⟨rfl, k⟩, h2, h3, h4⟩
    obtain ⟨g1, g2⟩ := h3.weak k
    exact ⟨v, locs', h2, g1, by rw [show Bar ext locs' h' = Bar ext locs' h'' from funext fun b => propext (g2 b)]; exact h4⟩
  · exact ht.elim
theorem Fn.by_trD {P : Program} {M : Mode} {lv : List Nat → Keep} {f : FuncId} {F : Func} {own : Option Nat} {n : Nat} {args : List TV} {h : List Ob} {r : TV} {h' : List Ob} {X : Prop} (hm : P.follows .mixedOrders = true) (hf : P.funcs[f]? = some F) (hn : h.length ≤ own.getD 0)
    (he : (trFD P M lv F own n args h fun r' h'' => r' = r ∧ Wk h'' h') = X) (H : X) : Fn P f args h r h' := Fn.of_trD hm hf hn (Eq.mpr he H)
def recOf : Code → Option (Nat × Nat × Code)
  | .seq (.region _ ops false) c =>
    match ops.toList with
    | [r, s] =>
      match r.dst, r.op, r.guard, s.dst, s.op, s.guard with
      | some d1, .call { callee := .builtin .recover, args := args, argTypes := _ }, none, some d2, .assign (.tmp d1'), none => if d1 = d1' ∧ args = #[] then some (d1, d2, c) else none
      | _, _, _, _, _, _ => none
    | _ => none
  | _ => none
def trFR (P : Program) (M : Mode) (lv : List Nat → Keep) (F : Func) (own : Option Nat) (args : List TV) (h : List Ob) (u : Option FV) (R : TV → List Ob → Prop) : Prop :=
  match F.body with
  | some c =>
    match recOf c with
    | some (d1, d2, c') =>
      let y : TV := match u with | none => .one (.fz (.ifc false)) | some x => .one (.fz x)
      let t := args ++ List.replicate (F.ntmps - args.length) .und
      if d1 < t.length ∧ d2 < t.length then tr P (M.at own) lv [1] c' (resK P F own R) (fun _ _ => False) (resK P F own R) ⟨(t.set d1 y).set d2 y, h⟩ else False
    | none => False
  | none => False
theorem set_slot {w : World} {B : Nat → Prop} {locs : Nat → Option Loc} {t : List TV} {tm : Array Value} (hs : tm.size = t.length) (hr : ∀ (i : Nat) (x : TV), t[i]? = some x → ∃ v, tm[i]? = some v ∧ RT w B locs x v) {d : Nat} (hd : d < t.length) {y : TV} {v : Value} (hy : RT w B locs y v) :
    ∀ (i : Nat) (x : TV), (t.set d y)[i]? = some x → ∃ u, (tm.setIfInBounds d v)[i]? = some u ∧ RT w B locs x u := by
  intro i x hx
  rw [List.getElem?_set] at hx
  by_cases e : d = i
  · subst e
    rw [if_pos rfl, if_pos hd] at hx
    cases hx
    exact ⟨v, by rw [Array.getElem?_setIfInBounds_self_of_lt (by omega)], hy⟩
  · rw [if_neg e] at hx
    obtain ⟨u, hu, hr⟩ := hr i x hx
    exact ⟨u, by rw [Array.getElem?_setIfInBounds_ne e]; exact hu, hr⟩
theorem FnDf.of_trR {P : Program} {M : Mode} {lv : List Nat → Keep} {f : FuncId} {F : Func} {own : Option Nat} {args : List TV} {h : List Ob} {u : Option FV} {h' : List Ob} (hm : P.follows .mixedOrders = true) (hf : P.funcs[f]? = some F) (hn : h.length ≤ own.getD 0)
    (hk : ∀ x st, M.kp x st → False) (ht : trFR P M lv F own args h u fun _ h'' => Wk h'' h') : FnDf P f args h u h' := by
  intro ext w locs vals H hsz hrep
  unfold trFR at ht
  split at ht
  · rename_i c hc
    split at ht
    · rename_i d1 d2 c' hrc
      simp only at ht
      split at ht
      · rename_i hd
        have hcode : ∃ id r s aty1, c = .seq (.region id #[r, s] false) c' ∧ r.dst = some d1 ∧ r.op = .call { callee := .builtin .recover, args := #[], argTypes := aty1 } ∧ r.guard = none ∧ s.dst = some d2 ∧ s.op = .assign (.tmp d1) ∧ s.guard = none := by
          unfold recOf at hrc
          split at hrc
          · rename_i id ops c0
            split at hrc
            · rename_i r s hops
              split at hrc
              · rename_i e1 args0 aty g1 e2 g2 g3 q1 q2 q3 q4 q5 q6
                split at hrc
                · rename_i hcc
                  obtain ⟨rfl, rfl⟩ := hcc
                  cases hrc
                  have : ops = #[r, s] := Array.ext' (by simpa using hops)
                  subst this
                  exact ⟨id, r, s, _, rfl, q1, q2, q3, q4, q5, q6⟩
                · cases hrc
              · cases hrc
            · cases hrc
          · cases hrc
        obtain ⟨id, r, s, aty1, rfl, hr1, hr2, hr3, hs1, hs2, hs3⟩ := hcode
        have body : ∀ (av : Array Value) (y : TV) (v : Value) (u0 u1 : FrameMode), av.size = args.length → (∀ (i : Nat) (x : TV), args[i]? = some x → ∃ z, av[i]? = some z ∧ RT w (Bar ext locs h) locs x z) → RT w (Bar ext locs h) locs y v → settle u1 = .returning →
            tr P (M.at own) lv [1] c' (resK P F own fun _ h'' => Wk h'' h') (fun _ _ => False) (resK P F own fun _ h'' => Wk h'' h') ⟨((args ++ List.replicate (F.ntmps - args.length) TV.und).set d1 y).set d2 y, h⟩ →
            (∀ (c₀ : Frame) (cs : List Frame), c₀.mode = u0 → recoverD (c₀ :: cs) = (match u0 with | .panicking _ => some (v, { c₀ with mode := u1 } :: cs) | _ => none) ∧ ((∀ l, u0 ≠ .panicking l) → v = .nilIface ∧ u1 = u0)) →
            CallsD P f av u0 w fun e u' w' => settle u' = .returning ∧ ∃ v locs', isRet e v ∧ RepH P ext w ⟨ownB locs h, locs, []⟩ locs' h' w' ∧ RT w' (Bar ext locs' h') locs' (TV.one AV.und) v := by
          intro av y v u0 u1 hav harep hy hset htr hrec
          have R0 := rep0 H hav harep F.ntmps
          obtain ⟨locs0, H0, RT0⟩ := R0.repT
          refine callsD_of_wpS hf hc fun c₀ cs hmode => ?_
          obtain ⟨hrd, hnp⟩ := hrec c₀ cs hmode
          have hsz0 : (av ++ Array.replicate (F.ntmps - av.size) undef).size = (args ++ List.replicate (F.ntmps - args.length) TV.und).length := by simp [hav]
          have Rb : Rep P ext w ⟨ownB locs h, locs, []⟩ ⟨((args ++ List.replicate (F.ntmps - args.length) TV.und).set d1 y).set d2 y, h⟩ { tmps := ((av ++ Array.replicate (F.ntmps - av.size) undef).setIfInBounds d1 v).setIfInBounds d2 v, defers := [] } w := by
            refine ⟨rfl, by simp [hav], locs, H, ?_⟩
            refine set_slot (by simp [hav]) (set_slot hsz0 ?_ hd.1 hy) (by simpa using hd.2) hy
            intro i x hx
            by_cases hi : i < args.length
            · rw [List.getElem?_append_left hi] at hx
              obtain ⟨v, hv, hr⟩ := harep i x hx
              exact ⟨v, by rw [Array.getElem?_append_left (by omega)]; exact hv, hr⟩
            · rw [List.getElem?_append_right (by omega), List.getElem?_replicate] at hx
              split at hx
              · cases hx
                refine ⟨undef, ?_, trivial⟩
                rw [Array.getElem?_append_right (by omega)]
                simp only [Array.getElem?_replicate]
                rw [if_pos (by omega)]
              · cases hx
          have cont : ∀ (u2 : FrameMode), settle u2 = .returning → c'.wpS P (bodyPostS P F c₀ cs fun e u' w' => settle u' = .returning ∧ ∃ v locs', isRet e v ∧ RepH P ext w ⟨ownB locs h, locs, []⟩ locs' h' w' ∧ RT w' (Bar ext locs' h') locs' (TV.one AV.und) v)
              { tmps := ((av ++ Array.replicate (F.ntmps - av.size) undef).setIfInBounds d1 v).setIfInBounds d2 v, defers := [] } ({ c₀ with mode := u2 } :: cs) w := by
            intro u2 hu2
            refine wpS_of_wp (wp_mono (tr_ok (M := M.at own) hm (pin0 H hn) c' _ _ _ _ _ _ _ htr Rb) fun e a w' hq => ?_)
            have fin : ∀ st, resK P F own (fun _ h'' => Wk h'' h') st → Rep P ext w ⟨ownB locs h, locs, []⟩ st a w' → a.defers = [] ∧ ∃ u', ({ c₀ with mode := u2 } :: cs : List Frame) = { c₀ with mode := u' } :: cs ∧ ∃ v, (results F a.tmps).run P w' = .ok v w' ∧
                (settle u' = .returning ∧ ∃ v' locs', isRet (.returned v) v' ∧ RepH P ext w ⟨ownB locs h, locs, []⟩ locs' h' w' ∧ RT w' (Bar ext locs' h') locs' (TV.one AV.und) v') := by
              intro st hk R'
              obtain ⟨v, r', h'', locs', h1, h2, h3, h4⟩ := resK_ok (pin0 H hn) hk R'
              obtain ⟨g1, g2⟩ := h3.weak h2
              exact ⟨R'.defers, u2, rfl, v, h1, hu2, v, locs', rfl, g1, trivial⟩
            cases e with
            | normal => obtain ⟨st, hk, R'⟩ := hq; exact fin st hk R'
            | ret => obtain ⟨st, hk, R'⟩ := hq; exact fin st hk R'
            | exit i => obtain ⟨st, hk, _⟩ := hq; exact hk.elim
            | panic ch => obtain ⟨v, x, st, _, hk', _⟩ := hq; exact (hk x st hk').elim
            | _ => exact hq.elim
          refine wpS_seq (wpS_region ?_)
          show wpOpsS P #[r, s] _ [0, 1] _ _ w
          unfold wpOpsS
          simp only [List.getElem?_toArray, List.getElem?_cons_zero]
          have hwr : ∀ g, Region.wanted r g = true := fun g => by unfold Region.wanted; rw [hr3]
          have hws : ∀ g, Region.wanted s g = true := fun g => by unfold Region.wanted; rw [hs3]
          rw [if_pos (hwr _)]
          have hrunr : ∀ ρ, (execOp ρ r).run P w = .ok .recover w := fun ρ => by
            unfold execOp
            rw [hr2]
            simp [resolve, invoke, builtin]
          rw [hrunr]
          simp only
          have after : ∀ (u2 : FrameMode), settle u2 = .returning → wpOpsS P #[r, s] (Exit.thenS (c'.wpS P (bodyPostS P F c₀ cs fun e u' w' => settle u' = .returning ∧ ∃ v locs', isRet e v ∧ RepH P ext w ⟨ownB locs h, locs, []⟩ locs' h' w' ∧ RT w' (Bar ext locs' h') locs' (TV.one AV.und) v))
              (bodyPostS P F c₀ cs fun e u' w' => settle u' = .returning ∧ ∃ v locs', isRet e v ∧ RepH P ext w ⟨ownB locs h, locs, []⟩ locs' h' w' ∧ RT w' (Bar ext locs' h') locs' (TV.one AV.und) v)) [1]
              (({ tmps := av ++ Array.replicate (F.ntmps - av.size) undef, defers := [] } : Act).put r.dst v) ({ c₀ with mode := u2 } :: cs) w := by
            intro u2 hu2
            unfold wpOpsS
            simp only [List.getElem?_toArray, List.getElem?_cons_succ, List.getElem?_cons_zero]
            rw [if_pos (hws _)]
            have hev : (({ tmps := av ++ Array.replicate (F.ntmps - av.size) undef, defers := [] } : Act).put r.dst v).eval (.tmp d1) = v := by
              rw [hr1]
              have hlt : d1 < (av ++ Array.replicate (F.ntmps - av.size) undef).size := by rw [hsz0]; exact hd.1
              simp only [Act.put, Act.eval, Array.getD_eq_getD_getElem?]
              rw [Array.getElem?_setIfInBounds_self_of_lt hlt]
              rfl
            have hruns : (execOp (({ tmps := av ++ Array.replicate (F.ntmps - av.size) undef, defers := [] } : Act).put r.dst v).eval s).run P w = .ok (.value v) w := by
              unfold execOp
              rw [hs2]
              simp [hev]
            rw [hruns]
            simp only [Oper.upon_value]
            unfold wpOpsS
            show c'.wpS P _ _ _ w
            have := cont u2 hu2
            rw [hr1, hs1]
            exact this
          rw [hrd]
          cases u0 with
          | panicking l => exact after u1 hset
          | run =>
            obtain ⟨rfl, rfl⟩ := hnp (fun l e => by cases e)
            have hc0 : c₀ = { c₀ with mode := .run } := by rw [← hmode]
            simp only
            have := after .run hset
            rw [← hc0] at this
            exact this
          | returning =>
            obtain ⟨rfl, rfl⟩ := hnp (fun l e => by cases e)
            have hc0 : c₀ = { c₀ with mode := .returning } := by rw [← hmode]
            simp only
            have := after .returning hset
            rw [← hc0] at this
            exact this
        unfold callD
        cases u with
        | none =>
          simp only [uArg, List.append_nil] at hsz hrep
          refine body vals (.one (.fz (.ifc false))) .nilIface .returning .returning hsz hrep RF.ifcN rfl ht fun c₀ cs hmode => ⟨?_, fun _ => ⟨rfl, rfl⟩⟩
          simp only [recoverD, hmode]
        | some x =>
          simp only [uArg, List.length_append, List.length_singleton] at hsz
          have hv : vals.back?.getD undef = vals[args.length]?.getD undef := by
            rw [Array.back?_eq_getElem?, hsz]
            rfl
          obtain ⟨v, hv1, hv2⟩ := hrep args.length (.one (.fz x)) (by simp [uArg])
          rw [hv1] at hv
          simp only [Option.getD_some] at hv
          refine body vals.pop (.one (.fz x)) (vals.back?.getD undef) _ (.panicking [{ v := vals.back?.getD undef, recovered := true }]) (by simp [hsz]) (fun i y hy => ?_) (by rw [hv]; exact hv2) rfl ht fun c₀ cs hmode => ⟨?_, fun hne => absurd rfl (hne _)⟩
          · have hi : i < args.length := (List.getElem?_eq_some_iff.1 hy).1
            obtain ⟨z, hz, hr⟩ := hrep i y (by rw [List.getElem?_append_left hi]; exact hy)
            refine ⟨z, ?_, hr⟩
            rw [Array.getElem?_pop, if_pos (by omega)]
            exact hz
          · simp only [recoverD, hmode]
      · exact ht.elim
    · exact ht.elim
  · exact ht.elim
theorem FnDf.by_trR {P : Program} {M : Mode} {lv : List Nat → Keep} {f : FuncId} {F : Func} {own : Option Nat} {args : List TV} {h : List Ob} {u : Option FV} {h' : List Ob} {X : Prop} (hm : P.follows .mixedOrders = true) (hf : P.funcs[f]? = some F) (hn : h.length ≤ own.getD 0)
    (hk : ∀ x st, M.kp x st → False) (he : (trFR P M lv F own args h u fun _ h'' => Wk h'' h') = X) (H : X) : FnDf P f args h u h' := FnDf.of_trR hm hf hn hk (Eq.mpr he H)
end Go.Proofs.YtejefchehdifhaaDoor.Ev
end
section
set_option linter.unusedVariables false
set_option linter.unusedSimpArgs false
namespace Go.Proofs.YtejefchehdifhaaDoor.Ev
open Go
def coolA (h : List Ob) (n : Nat) : AV → AV
  | .ofl sz o => match decide (n ≤ o), frzA h (.ofl sz o) with
    | true, some (v, _) => .fz v
    | _, _ => .ofl sz o
  | .nsl sz => .fz (.sl sz [])
  | .kb b => .fz (.bool b)
  | a => a
def coolT (h : List Ob) (n : Nat) : TV → TV
  | .one a => .one (coolA h n a)
  | .agg cs => .agg (cs.map (coolA h n))
  | .tup ts => .tup (ts.map fun p => (p.1, p.2.map (coolA h n)))
  | .und => .und
def lowA (n : Nat) : AV → Bool
  | .ofl _ o => decide (o < n)
  | .ptr o _ _ _ => decide (o < n)
  | .kb _ => false
  | _ => true
def lowT (n : Nat) : TV → Bool
  | .one a => lowA n a
  | .agg cs => cs.all (lowA n)
  | .tup ts => ts.all fun p => p.2.all (lowA n)
  | .und => true
def lowO (n : Nat) : Ob → Bool
  | .g _ cs => cs.all (lowA n)
  | .rs => false
  | _ => true
def Cool (n : Nat) (r' : TV) (h' : List Ob) (r : TV) (h : List Ob) : Prop := coolT h' n r' = r ∧ Wk (h'.take n) h ∧ (lowT n r && (h'.take n).all (lowO n) && decide (n ≤ h'.length)) = true
theorem idxO_go_none (o : Nat) : ∀ (ids : List Nat) (k : Nat), idxO.go o ids k = none → o ∉ ids
  | [], k, _ => by simp
  | x :: r, k, h => by
    unfold idxO.go at h
    split at h
    · cases h
    · rename_i hne
      have := idxO_go_none o r (k + 1) h
      simp only [List.mem_cons, not_or]
      exact ⟨fun e => hne e.symm, this⟩
theorem idxO_range {n o : Nat} (h : o < n) : idxO (List.range n) o = some o := by
  cases hq : idxO (List.range n) o with
  | none => exact absurd (List.mem_range.2 h) (idxO_go_none o _ 0 hq)
  | some k =>
    have := idxO_some hq
    have hk : k < n := by
      rcases Nat.lt_or_ge k n with h' | h'
      · exact h'
      · rw [List.getElem?_eq_none (by simpa using h')] at this; cases this
    rw [List.getElem?_range hk] at this
    cases this; rfl
theorem low_reA {n : Nat} {a : AV} (h : lowA n a = true) : reA (List.range n) a = a := by
  cases a <;> simp only [lowA, decide_eq_true_eq] at h <;> first | rfl | simp only [reA, idxO_range h] | cases h
theorem low_map {n : Nat} {cs : List AV} (h : cs.all (lowA n) = true) : cs.map (reA (List.range n)) = cs := by
  rw [List.all_eq_true] at h
  conv => rhs; rw [← List.map_id cs]
  exact List.map_congr_left fun a ha => low_reA (h a ha)
theorem low_reT {n : Nat} {t : TV} (h : lowT n t = true) : reT (List.range n) t = t := by
  cases t with
  | one a => simp only [lowT] at h; simp only [reT, low_reA h]
  | agg cs => simp only [lowT] at h; simp only [reT, low_map h]
  | tup ts =>
    simp only [lowT, List.all_eq_true] at h
    simp only [reT]
    congr 1
    conv => rhs; rw [← List.map_id ts]
    exact List.map_congr_left fun p hp => by
      obtain ⟨b, cs⟩ := p
      simp only [id_eq]
      rw [low_map (List.all_eq_true.2 (h (b, cs) hp))]
  | und => rfl
theorem low_reO {n : Nat} {ob : Ob} (h : lowO n ob = true) : reO (List.range n) ob = ob := by
  cases ob with
  | g gt cs => simp only [lowO] at h; simp only [reO, low_map h]
  | rs => cases h
  | _ => rfl
section
variable {P : Program} {ext : Nat → Prop} {w0 : World} {own0 : Own0} {locs : Nat → Option Loc} {h : List Ob} {w : World}
theorem coolA_ok {n : Nat} (H : RepH P ext w0 own0 locs h w) {a : AV} {v : Value} (hr : RA w (Bar ext locs h) locs a v) :
    RA w (Bar ext locs (putOs h (zs h ((List.range h.length).drop n)))) locs (coolA h n a) v := by
  have lt := (zs_ok ((List.range h.length).drop n) H).2.1
  cases a with
  | ofl sz o =>
    simp only [coolA]
    split
    · rename_i x i hd hf
      have hno : n ≤ o := by simpa using hd
      refine frzA_ok hf (fun k hk => ?_) H hr
      have hko : k = o ∧ o < h.length := by
        unfold frzA at hf
        simp only at hf
        have hlt : ∀ ob, getO h o = ob → ob ≠ .no → o < h.length := fun ob hg hne => (List.getElem?_eq_some_iff.1 (getO_some hg hne)).1
        split at hf
        · rename_i et sz' es hg
          split at hf
          · cases hf
            exact ⟨by simpa using hk, hlt _ hg (by simp)⟩
          · cases hf
        · rename_i sz' es hg
          split at hf
          · cases hf
            exact ⟨by simpa using hk, hlt _ hg (by simp)⟩
          · cases hf
        · cases hf
      obtain ⟨rfl, hl⟩ := hko
      rw [List.mem_iff_getElem?]
      exact ⟨k - n, by rw [List.getElem?_drop, show n + (k - n) = k by omega, List.getElem?_range hl]⟩
    · exact hr.later lt (fun _ _ h => h)
  | nsl sz =>
    obtain ⟨a, rfl⟩ := hr
    exact RF.slN sz a 0
  | kb b => cases hr; exact RF.bool b
  | _ => exact hr.later lt (fun _ _ h => h)
theorem coolC_ok {n : Nat} (H : RepH P ext w0 own0 locs h w) {b : Bool} {cs : List AV} {v : Value} (hr : RC w (Bar ext locs h) locs b cs v) :
    RC w (Bar ext locs (putOs h (zs h ((List.range h.length).drop n)))) locs b (cs.map (coolA h n)) v := by
  obtain ⟨vs, h1, h2, h3, h4⟩ := hr
  refine ⟨vs, h1, by simp [h2], h3, fun j x hx => ?_⟩
  simp only [List.getElem?_map, Option.map_eq_some_iff] at hx
  obtain ⟨y, hy, rfl⟩ := hx
  obtain ⟨u, hu, hra⟩ := h4 j y hy
  exact ⟨u, hu, coolA_ok H hra⟩
theorem coolT_ok {n : Nat} (H : RepH P ext w0 own0 locs h w) {t : TV} {v : Value} (hr : RT w (Bar ext locs h) locs t v) :
    RT w (Bar ext locs (putOs h (zs h ((List.range h.length).drop n)))) locs (coolT h n t) v := by
  cases t with
  | one a => exact coolA_ok H hr
  | agg cs => exact coolC_ok H hr
  | tup ts =>
    obtain ⟨vs, h1, h2, h3⟩ := hr
    refine ⟨vs, h1, by simp [h2], fun i b cs hi => ?_⟩
    simp only [List.getElem?_map, Option.map_eq_some_iff] at hi
    obtain ⟨⟨b', cs'⟩, hq, he⟩ := hi
    cases he
    obtain ⟨u, hu, hra⟩ := h3 i _ _ hq
    exact ⟨u, hu, coolC_ok H hra⟩
  | und => trivial
end
theorem zs_out (n : Nat) (h : List Ob) (o : Nat) (ho : o < n) : (putOs h (zs h ((List.range h.length).drop n)))[o]? = h[o]? := by
  refine zs_get _ _ _ fun hm => ?_
  rw [List.mem_iff_getElem?] at hm
  obtain ⟨k, hk⟩ := hm
  rw [List.getElem?_drop] at hk
  have hlt : n + k < h.length := by
    rcases Nat.lt_or_ge (n + k) h.length with h' | h'
    · exact h'
    · rw [List.getElem?_eq_none (by simpa using h')] at hk; cases hk
  rw [List.getElem?_range hlt] at hk
  cases hk
  omega
theorem Fn.of_trC {P : Program} {M : Mode} {lv : List Nat → Keep} {f : FuncId} {F : Func} {own : Option Nat} {args : List TV} {h : List Ob} {r : TV} {h' : List Ob} (hm : P.follows .mixedOrders = true) (hf : P.funcs[f]? = some F) (hn : h.length ≤ own.getD 0)
    (hk : ∀ x st, M.kp x st → False) (ht : trF P M lv F own args h fun r' h'' => Cool h.length r' h'' r h') : Fn P f args h r h' := by
  intro ext w locs vals H hsz hrep
  refine (Fn.of_trG hm hf hn ht ext w locs vals H hsz hrep).mono ?_
  rintro e w' (⟨v, r', h'', locs', ⟨h1, h2, h3⟩, he, H', hr⟩ | ⟨v, x, st, locs', h1, _⟩)
  rotate_left
  · exact (hk x st h1).elim
  simp only [Bool.and_eq_true, decide_eq_true_eq] at h3
  obtain ⟨⟨l1, l2⟩, l3⟩ := h3
  obtain ⟨H1, lt1, hlen1, _⟩ := zs_ok ((List.range h''.length).drop h.length) H'
  have hr1 := coolT_ok (n := h.length) H' hr
  rw [h1] at hr1
  obtain ⟨H2, lt2⟩ := reH_ok H1 (ids := List.range h.length) List.nodup_range (fun o x hx => by
    have : o < h.length := by
      rcases Nat.lt_or_ge o h.length with h' | h'
      · exact h'
      · have := H.len o h'
        rw [show locs o = some x from hx] at this; cases this
    simp [this])
  have hmap : ((List.range h.length).map fun o => reO (List.range h.length) (getO (putOs h'' (zs h'' ((List.range h''.length).drop h.length))) o)) = h''.take h.length := by
    apply List.ext_getElem?
    intro i
    simp only [List.getElem?_map]
    by_cases hi : i < h.length
    · rw [List.getElem?_range hi, Option.map_some, List.getElem?_take, if_pos hi]
      have hi2 : i < h''.length := by omega
      have hg : getO (putOs h'' (zs h'' ((List.range h''.length).drop h.length))) i = h''[i] := by
        simp only [getO, List.getD_eq_getElem?_getD, zs_out h.length h'' i hi, List.getElem?_eq_getElem hi2, Option.getD_some]
      rw [hg, List.getElem?_eq_getElem hi2, low_reO]
      refine (List.all_eq_true.1 l2) _ ?_
      rw [List.mem_iff_getElem?]
      exact ⟨i, by rw [List.getElem?_take, if_pos hi, List.getElem?_eq_getElem hi2]⟩
    · rw [List.getElem?_eq_none (by simpa using hi), List.getElem?_take, if_neg hi]
      rfl
  rw [hmap] at H2 lt2
  obtain ⟨H3, hb⟩ := H2.weak h2
  refine ⟨v, _, he, H3, ?_⟩
  have h5 := reT_ok (ids := List.range h.length) (hr1.later lt2 (fun _ _ h => h))
  rw [low_reT l1] at h5
  rw [show Bar ext (reLocs locs' (List.range h.length)) h' = Bar ext (reLocs locs' (List.range h.length)) (h''.take h.length) from funext fun b => propext (hb b)]
  exact h5
theorem Fn.by_trC {P : Program} {M : Mode} {lv : List Nat → Keep} {f : FuncId} {F : Func} {own : Option Nat} {args : List TV} {h : List Ob} {r : TV} {h' : List Ob} {X : Prop} (hm : P.follows .mixedOrders = true) (hf : P.funcs[f]? = some F) (hn : h.length ≤ own.getD 0)
    (hk : ∀ x st, M.kp x st → False) (he : (trF P M lv F own args h fun r' h'' => Cool h.length r' h'' r h') = X) (H : X) : Fn P f args h r h' := Fn.of_trC hm hf hn hk (Eq.mpr he H)
end Go.Proofs.YtejefchehdifhaaDoor.Ev
end
section
set_option linter.unusedVariables false
set_option maxRecDepth 100000
namespace Go.Proofs.YtejefchehdifhaaDoor.Ev
open Go
def num_of_lv : List Nat → Keep := lvOf []
def num_of_H (R : TV → List Ob → Prop) (neg : Bool) (l : List (List FV)) : Prop :=
  (∃ es1 : List (List FV), ((Fn Tryd.prog 59 [(TV.one (AV.fz (FV.sl 1 l)))] [] (TV.one (AV.fz (FV.sl 1 es1))) []) ∧ ((((decide ((64 : Int) < (((List.length es1) : Nat) : Int))) = true) → (R (TV.tup [(true, [(AV.fz (FV.bool false)), (AV.fz (FV.sl 1 ([] : List (List FV))))]), (false, [(AV.fz (FV.int .i64 6))])]) [])) ∧ (((decide ((64 : Int) < (((List.length es1) : Nat) : Int))) = false) → (((neg = true) → (R (TV.tup [(true, [(AV.fz (FV.bool (decide ((0 : Int) < (((List.length es1) : Nat) : Int))))), (AV.fz (FV.sl 1 es1))]), (false, [(AV.fz (FV.int .i64 0))])]) [])) ∧ ((neg = false) → (R (TV.tup [(true, [(AV.fz (FV.bool false)), (AV.fz (FV.sl 1 es1))]), (false, [(AV.fz (FV.int .i64 0))])]) [])))))))
theorem num_of_fn (neg : Bool) (l : List (List FV)) {r : TV} {h : List Ob} (H : num_of_H (fun r' h' => r' = r ∧ h' = h) neg l) : Fn Tryd.prog 42 [(TV.one (AV.fz (FV.bool neg))), (TV.one (AV.fz (FV.sl 1 l)))] [] r h :=
  Fn.by_tr (M := (modeOf [] [])) (lv := num_of_lv) (own := none) (F := Tryd.f42) (by kernel_rfl) (by kernel_rfl) (by first | decide | simp) (fun _ _ h => h) (by kernel_rfl) H
def num_cut_lv : List Nat → Keep := lvOf [([0, 0, 1], ⟨1, 0, [], false, false⟩)]
def num_cut_S0 (l1 : List (List FV)) : St := (St.mk [(TV.one (AV.fz (FV.sl 1 l1))), TV.und, TV.und, TV.und, TV.und, TV.und, TV.und, TV.und, TV.und, TV.und, TV.und, TV.und, TV.und, TV.und, TV.und, TV.und, TV.und, TV.und, TV.und, TV.und, TV.und] [])
def num_cut_L0 (R : TV → List Ob → Prop) (l1 : List (List FV)) : Prop := LoopAt Tryd.prog (modeOf [] []) num_cut_lv Tryd.f59 none R [1, 0, 0] (num_cut_S0 l1)
def num_cut_R0 (R : TV → List Ob → Prop) (l1 : List (List FV)) : Prop :=
  ((((decide ((0 : Int) < (((List.length l1) : Nat) : Int))) = true) → (((0 : Int) ≤ (IntKind.wrap .i64 ((((List.length l1) : Nat) : Int) - 1))) ∧ (∃ n2 : Int, (((l1)[(Int.toNat (IntKind.wrap .i64 ((((List.length l1) : Nat) : Int) - 1)))]? = (some [(FV.int .u32 n2)])) ∧ ((((n2 == 0) = true) → ((((0 : Int) ≤ (IntKind.wrap .i64 ((((List.length l1) : Nat) : Int) - 1))) ∧ ((IntKind.wrap .i64 ((((List.length l1) : Nat) : Int) - 1)) ≤ (((List.length l1) : Nat) : Int))) ∧ (num_cut_L0 R (List.take (Int.toNat (IntKind.wrap .i64 ((((List.length l1) : Nat) : Int) - 1))) l1)))) ∧ (((n2 == 0) = false) → (R (TV.one (AV.fz (FV.sl 1 l1))) []))))))) ∧ (((decide ((0 : Int) < (((List.length l1) : Nat) : Int))) = false) → (R (TV.one (AV.fz (FV.sl 1 l1))) [])))
theorem num_cut_l0 {R : TV → List Ob → Prop} {l1 : List (List FV)} (h : num_cut_R0 R l1) : num_cut_L0 R l1 :=
  LoopAt.by_tr (by kernel_rfl) (by kernel_rfl) h
def num_cut_H (R : TV → List Ob → Prop) (l : List (List FV)) : Prop :=
  (num_cut_L0 R l)
theorem num_cut_fn (l : List (List FV)) {r : TV} {h : List Ob} (H : num_cut_H (fun r' h' => r' = r ∧ h' = h) l) : Fn Tryd.prog 59 [(TV.one (AV.fz (FV.sl 1 l)))] [] r h :=
  Fn.by_tr (M := (modeOf [] [])) (lv := num_cut_lv) (own := none) (F := Tryd.f59) (by kernel_rfl) (by kernel_rfl) (by first | decide | simp) (fun _ _ h => h) (by kernel_rfl) H
end Go.Proofs.YtejefchehdifhaaDoor.Ev
end
section
set_option linter.unusedVariables false
set_option linter.unusedSimpArgs false
namespace Go.Proofs.YtejefchehdifhaaDoor.Ev
open Go
theorem cut_loop (R : TV → List Ob → Prop) : ∀ (n : Nat) (l : List Int), l.length = n → n ≤ 1000000 → Lim 1000000000 l → R (fzS .u32 (digs 1000000000 (val 1000000000 l).toNat)) [] → num_cut_L0 R (ints .u32 l)
  | 0, l, hn, _, hL, hR => by
    obtain rfl := List.length_eq_zero_iff.1 hn
    refine num_cut_l0 ?_
    unfold num_cut_R0
    simp only [ints_len, ints_app, ints_snoc, ints_take, ints_drop, ints_set, ints_rep, ints_one, ex_rd, dec_t, dec_f, beq_t, beq_f, bne_t, bne_f, not_t, not_f, List.length_set, List.length_append, List.length_cons, List.length_nil, List.length_take, List.length_drop, List.length_replicate, Int.toNat_natCast, List.nil_append, Bool.not_true, Bool.not_false, Wk_nil, Wk_cons, wk1_same, wk1_f, and_true, true_and, Bool.false_eq_true, Bool.true_eq_false, false_implies, forall_const]
    refine ⟨fun h => by omega, fun _ => ?_⟩
    have e : (val 1000000000 []).toNat = 0 := rfl
    rw [e, digs_zero] at hR
    exact hR
  | n + 1, l, hn, hb, hL, hR => by
    refine num_cut_l0 ?_
    unfold num_cut_R0
    have e : IntKind.wrap .i64 ((l.length : Int) - 1) = (n : Nat) := by rw [w64 (by omega) (by omega)]; omega
    simp only [ints_len, ints_app, ints_snoc, ints_take, ints_drop, ints_set, ints_rep, ints_one, ex_rd, dec_t, dec_f, beq_t, beq_f, bne_t, bne_f, not_t, not_f, List.length_set, List.length_append, List.length_cons, List.length_nil, List.length_take, List.length_drop, List.length_replicate, Int.toNat_natCast, List.nil_append, Bool.not_true, Bool.not_false, Wk_nil, Wk_cons, wk1_same, wk1_f, and_true, true_and, Bool.false_eq_true, Bool.true_eq_false, false_implies, forall_const, e]
    refine ⟨fun _ => ⟨by omega, by omega, fun h0 => ⟨by omega, ?_⟩, fun h0 => ?_⟩, fun h => by omega⟩
    · refine cut_loop R n _ (by simp; omega) (by omega) (hL.take n) ?_
      have := val_take_succ 1000000000 l n
      rw [List.take_of_length_le (by omega), h0, Int.mul_zero, Int.add_zero] at this
      rwa [← this]
    · have hnm : Norm l := norm_of_rd fun _ => by rw [hn]; exact h0
      rwa [digsB_eq hL hnm] at hR
theorem cut_ok (l : List Int) (hl : l.length ≤ 1000000) (hL : Lim 1000000000 l) : Fn Tryd.prog 59 [fzS .u32 l] [] (fzS .u32 (digs 1000000000 (val 1000000000 l).toNat)) [] :=
  num_cut_fn _ (cut_loop _ _ l rfl hl hL ⟨rfl, rfl⟩)
end Go.Proofs.YtejefchehdifhaaDoor.Ev
end
section
set_option linter.unusedVariables false
set_option linter.unusedSimpArgs false
namespace Go.Proofs.YtejefchehdifhaaDoor.Ev
open Go
abbrev tupNE (s : Bool) (l : List Int) (e : Int) : TV := .tup [(true, [.fz (.bool s), .fz (.sl 1 (ints .u32 l))]), (false, [.fz (.int .i64 e)])]
def outS (z : Int) : Bool := if 64 < (bigL z).length then false else bigN z
def outL (z : Int) : List Int := if 64 < (bigL z).length then [] else bigL z
def outE (z : Int) : Int := if 64 < (bigL z).length then 6 else 0
abbrev outT (z : Int) : TV := tupNE (outS z) (outL z) (outE z)
theorem sgn_val (s : Bool) (l : List Int) (hL : Lim 1000000000 l) : digs 1000000000 (val 1000000000 l).toNat = bigL (sv s l) := by
  have := val_nonneg (B := 1000000000) (by omega) hL
  unfold bigL sv
  congr 1
  split <;> omega
theorem of_ok (s : Bool) (l : List Int) (hl : l.length ≤ 1000000) (hL : Lim 1000000000 l) : Fn Tryd.prog 42 [fzB s, fzS .u32 l] [] (outT (sv s l)) [] := by
  have h0 := val_nonneg (B := 1000000000) (by omega) hL
  refine num_of_fn _ _ ?_
  unfold num_of_H
  refine ⟨_, cut_ok l hl hL, ?_⟩
  have hz := bigL_nil (sv s l)
  rw [sgn_val s l hL]
  unfold outT outS outL outE
  simp only [ints_len, ints_app, ints_snoc, ints_take, ints_drop, ints_set, ints_rep, ints_one, ex_rd, dec_t, dec_f, beq_t, beq_f, bne_t, bne_f, not_t, not_f, List.length_set, List.length_append, List.length_cons, List.length_nil, List.length_take, List.length_drop, List.length_replicate, Int.toNat_natCast, List.nil_append, Bool.not_true, Bool.not_false, Wk_nil, Wk_cons, wk1_same, wk1_f, and_true, true_and, Bool.false_eq_true, Bool.true_eq_false, false_implies, forall_const]
  refine ⟨fun h => ?_, fun h => ?_⟩
  · rw [if_pos (by omega), if_pos (by omega), if_pos (by omega)]; rfl
  · rw [if_neg (by omega), if_neg (by omega), if_neg (by omega)]
    refine ⟨fun hs => ?_, fun hs => ?_⟩
    · have : decide ((0 : Int) < ((bigL (sv s l)).length : Nat)) = bigN (sv s l) := by
        unfold bigN
        rw [decide_eq_decide]
        have h1 : (bigL (sv s l)).length = 0 ↔ sv s l = 0 := by rw [List.length_eq_zero_iff, hz]
        have h2 : sv s l ≤ 0 := by unfold sv; rw [if_pos hs]; omega
        omega
      rw [this]
    · have : bigN (sv s l) = false := by
        unfold bigN sv
        rw [if_neg (by simp [hs])]
        simpa using h0
      rw [this]
end Go.Proofs.YtejefchehdifhaaDoor.Ev
end
section
set_option linter.unusedVariables false
set_option maxRecDepth 100000
namespace Go.Proofs.YtejefchehdifhaaDoor.Ev
open Go
def ref01_Same_lv : List Nat → Keep := lvOf [([0, 1, 0, 1, 1], ⟨44, 0, [], false, false⟩)]
def ref01_Same_S0 (a0 : Bool) (a1 : List (List FV)) (b0 : Bool) (b1 : List (List FV)) (i : Int) : St := (St.mk [TV.und, TV.und, (TV.one (AV.ptr 0 0 0 0)), (TV.one (AV.ptr 1 0 0 0)), TV.und, (TV.one (AV.fz (FV.int .i64 i))), TV.und, TV.und, TV.und, TV.und, TV.und, TV.und, TV.und, TV.und, TV.und, TV.und, TV.und, TV.und, TV.und, TV.und, TV.und, TV.und, TV.und, TV.und, TV.und, TV.und, TV.und, TV.und, TV.und, TV.und, TV.und, TV.und, TV.und, TV.und, TV.und, TV.und, TV.und, TV.und] [(Ob.g 31 [(AV.fz (FV.bool a0)), (AV.fz (FV.sl 1 a1))]), (Ob.g 31 [(AV.fz (FV.bool b0)), (AV.fz (FV.sl 1 b1))])])
def ref01_Same_L0 (R : TV → List Ob → Prop) (a0 : Bool) (a1 : List (List FV)) (b0 : Bool) (b1 : List (List FV)) (i : Int) : Prop := LoopAt Tryd.prog (modeOf [] []) ref01_Same_lv Tryd.f24 none R [1, 1, 0, 1, 0] (ref01_Same_S0 a0 a1 b0 b1 i)
def ref01_Same_R0 (R : TV → List Ob → Prop) (a0 : Bool) (a1 : List (List FV)) (b0 : Bool) (b1 : List (List FV)) (i : Int) : Prop :=
  ((((decide (i < (((List.length a1) : Nat) : Int))) = true) → (((0 : Int) ≤ i) ∧ (∃ n4 : Int, (((a1)[(Int.toNat i)]? = (some [(FV.int .u32 n4)])) ∧ (((0 : Int) ≤ i) ∧ (∃ n5 : Int, (((b1)[(Int.toNat i)]? = (some [(FV.int .u32 n5)])) ∧ ((((n4 != n5) = true) → (R (TV.one (AV.fz (FV.bool false))) [])) ∧ (((n4 != n5) = false) → (ref01_Same_L0 R a0 a1 b0 b1 (IntKind.wrap .i64 (i + 1)))))))))))) ∧ (((decide (i < (((List.length a1) : Nat) : Int))) = false) → (R (TV.one (AV.fz (FV.bool true))) [])))
theorem ref01_Same_l0 {R : TV → List Ob → Prop} {a0 : Bool} {a1 : List (List FV)} {b0 : Bool} {b1 : List (List FV)} {i : Int} (h : ref01_Same_R0 R a0 a1 b0 b1 i) : ref01_Same_L0 R a0 a1 b0 b1 i :=
  LoopAt.by_tr (by kernel_rfl) (by kernel_rfl) h
def ref01_Same_H (R : TV → List Ob → Prop) (a0 : Bool) (a1 : List (List FV)) (b0 : Bool) (b1 : List (List FV)) : Prop :=
  ((((Bool.not (a0 == b0)) = true) → (R (TV.one (AV.fz (FV.bool false))) [])) ∧ (((Bool.not (a0 == b0)) = false) → (((((((List.length a1) : Nat) : Int) != (((List.length b1) : Nat) : Int)) = true) → (R (TV.one (AV.fz (FV.bool false))) [])) ∧ ((((((List.length a1) : Nat) : Int) != (((List.length b1) : Nat) : Int)) = false) → (ref01_Same_L0 R a0 a1 b0 b1 0)))))
theorem ref01_Same_fn (a0 : Bool) (a1 : List (List FV)) (b0 : Bool) (b1 : List (List FV)) {r : TV} {h : List Ob} (H : ref01_Same_H (fun r' h' => r' = r ∧ h' = h) a0 a1 b0 b1) : Fn Tryd.prog 24 [(TV.agg [(AV.fz (FV.bool a0)), (AV.fz (FV.sl 1 a1))]), (TV.agg [(AV.fz (FV.bool b0)), (AV.fz (FV.sl 1 b1))])] [] r h :=
  Fn.by_tr (M := (modeOf [] [])) (lv := ref01_Same_lv) (own := none) (F := Tryd.f24) (by kernel_rfl) (by kernel_rfl) (by first | decide | simp) (fun _ _ h => h) (by kernel_rfl) H
end Go.Proofs.YtejefchehdifhaaDoor.Ev
end
section
set_option linter.unusedVariables false
set_option linter.unusedSimpArgs false
namespace Go.Proofs.YtejefchehdifhaaDoor.Ev
open Go
def mkS (s : Bool) (v : Int) : Bool := if 576 < (digs 10 v.toNat).length then false else s && decide (0 < v)
def mkL (v : Int) : List Int := if 576 < (digs 10 v.toNat).length then [] else digs 1000000000 v.toNat
def mkB (v : Int) : Bool := if 576 < (digs 10 v.toNat).length then false else true
end Go.Proofs.YtejefchehdifhaaDoor.Ev
end
section
set_option linter.unusedVariables false
set_option linter.unusedSimpArgs false
namespace Go.Proofs.YtejefchehdifhaaDoor.Ev
open Go
theorem same_loop (s t : Bool) (a b : List Int) (ha : a.length ≤ 100000000000000) (hlen : a.length = b.length) (R : TV → List Ob → Prop) (hR : R (fzB (decide (a = b))) []) : ∀ (d i : Nat), i + d = a.length → a.take i = b.take i → ref01_Same_L0 R s (ints .u32 a) t (ints .u32 b) i
  | 0, i, hi, h => by
    rw [List.take_of_length_le (by omega), List.take_of_length_le (by omega)] at h
    refine ref01_Same_l0 ?_
    unfold ref01_Same_R0
    simp only [ints_len, ints_app, ints_snoc, ints_take, ints_drop, ints_set, ints_rep, ints_one, ex_rd, dec_t, dec_f, beq_t, beq_f, bne_t, bne_f, not_t, not_f, List.length_set, List.length_append, List.length_cons, List.length_nil, List.length_take, List.length_drop, List.length_replicate, Int.toNat_natCast, List.nil_append, Bool.not_true, Bool.not_false, Wk_nil, Wk_cons, wk1_same, wk1_f, and_true, true_and, Bool.false_eq_true, Bool.true_eq_false, false_implies, forall_const]
    exact ⟨fun h => by omega, fun _ => by simpa [h] using hR⟩
  | d + 1, i, hi, h => by
    refine ref01_Same_l0 ?_
    unfold ref01_Same_R0
    have e3 : IntKind.wrap .i64 ((i : Int) + 1) = ((i + 1 : Nat) : Int) := w64 (by omega) (by omega)
    simp only [ints_len, ints_app, ints_snoc, ints_take, ints_drop, ints_set, ints_rep, ints_one, ex_rd, dec_t, dec_f, beq_t, beq_f, bne_t, bne_f, not_t, not_f, List.length_set, List.length_append, List.length_cons, List.length_nil, List.length_take, List.length_drop, List.length_replicate, Int.toNat_natCast, List.nil_append, Bool.not_true, Bool.not_false, Wk_nil, Wk_cons, wk1_same, wk1_f, and_true, true_and, Bool.false_eq_true, Bool.true_eq_false, false_implies, forall_const, e3]
    refine ⟨fun _ => ⟨by omega, by omega, by omega, by omega, fun hne => ?_, fun he => ?_⟩, fun h => by omega⟩
    · have : ¬ a = b := fun e => hne (by rw [e])
      simpa [this] using hR
    · refine same_loop s t a b ha hlen R hR d (i + 1) (by omega) ?_
      rw [rd_at a i (by omega), rd_at b i (by omega)] at he
      rw [List.take_succ_eq_append_getElem (by omega), List.take_succ_eq_append_getElem (by omega), h, he]
theorem same_ok (s t : Bool) (a b : List Int) (ha : a.length ≤ 100000000000000) : Fn Tryd.prog 24 [fzN s a, fzN t b] [] (fzB (decide (s = t ∧ a = b))) [] := by
  refine ref01_Same_fn _ _ _ _ ?_
  unfold ref01_Same_H
  simp only [ints_len, ints_app, ints_snoc, ints_take, ints_drop, ints_set, ints_rep, ints_one, ex_rd, dec_t, dec_f, beq_t, beq_f, bne_t, bne_f, not_t, not_f, List.length_set, List.length_append, List.length_cons, List.length_nil, List.length_take, List.length_drop, List.length_replicate, Int.toNat_natCast, List.nil_append, Bool.not_true, Bool.not_false, Wk_nil, Wk_cons, wk1_same, wk1_f, and_true, true_and, Bool.false_eq_true, Bool.true_eq_false, false_implies, forall_const, beq_eq_false_iff_ne, beq_iff_eq]
  refine ⟨fun h => ?_, fun h => ⟨fun h2 => ?_, fun h2 => ?_⟩⟩
  · simp [h]
  · have : ¬ a = b := fun e => h2 (by rw [e])
    simp [this]
  · exact same_loop s t a b ha (by omega) _ ⟨by simp [h], rfl⟩ a.length 0 (by omega) (by simp)
set_option exponentiation.threshold 1000 in
theorem mk_out (s : Bool) (v : Int) (hv : 0 ≤ v) : (mkB v = true → outE (if s = true then -v else v) = 0 ∧ outS (if s = true then -v else v) = mkS s v ∧ outL (if s = true then -v else v) = mkL v) ∧
    (mkB v = false → outE (if s = true then -v else v) = 6 ∧ outS (if s = true then -v else v) = false ∧ outL (if s = true then -v else v) = []) := by
  have e : ((if s = true then -v else v)).natAbs = v.toNat := by split <;> omega
  have h1 := digs_len (B := 10) (by omega) v.toNat 576
  have h2 := bigL_len (if s = true then -v else v) 64
  rw [e] at h2
  have h3 : (10 : Nat) ^ 576 = 1000000000 ^ 64 := pow9N 64
  rw [h3] at h1
  unfold mkB mkS mkL outE outS outL
  by_cases hc : 576 < (digs 10 v.toNat).length
  · have : 64 < (bigL (if s = true then -v else v)).length := by omega
    rw [if_pos hc, if_pos hc, if_pos hc, if_pos this, if_pos this, if_pos this]
    exact ⟨(fun h => by cases h), fun _ => ⟨rfl, rfl, rfl⟩⟩
  · have : ¬ 64 < (bigL (if s = true then -v else v)).length := by omega
    rw [if_neg hc, if_neg hc, if_neg hc, if_neg this, if_neg this, if_neg this]
    refine ⟨fun _ => ⟨rfl, ?_, ?_⟩, (fun h => by cases h)⟩
    · unfold bigN
      cases s <;> simp <;> omega
    · unfold bigL; rw [e]
end Go.Proofs.YtejefchehdifhaaDoor.Ev
end
section
set_option linter.unusedVariables false
set_option linter.unusedSimpArgs false
namespace Go.Proofs.YtejefchehdifhaaDoor.Ev
open Go Go.Proofs
def bs (s : ByteArray) : List Int := s.data.toList.map fun c => (c.toNat : Int)
def Bytes (l : List Int) : Prop := Lim 256 l
theorem Bytes.nil : Bytes [] := Lim.nil _
theorem bs_bytes (s : ByteArray) : Bytes (bs s) := by
  intro x hx
  simp only [bs, List.mem_map] at hx
  obtain ⟨c, _, rfl⟩ := hx
  have := c.toNat_lt
  omega
theorem u8_back {n : Int} (h0 : 0 ≤ n) (h1 : n < 256) : ((UInt8.ofNat n.toNat).toNat : Int) = n := by
  rw [UInt8.toNat_ofNat']; omega
theorem bs_of {l : List Int} (h : Bytes l) : bs (bytesOf l) = l := by
  simp only [bs, bytesOf, List.map_map]
  conv => rhs; rw [← List.map_id l]
  refine List.map_congr_left fun x hx => ?_
  have := h x hx
  simpa using u8_back this.1 this.2
theorem of_bs (s : ByteArray) : bytesOf (bs s) = s := by
  have : (bs s).map (fun n => UInt8.ofNat n.toNat) = s.data.toList := by
    simp only [bs, List.map_map]
    conv => rhs; rw [← List.map_id s.data.toList]
    refine List.map_congr_left fun c _ => ?_
    simp
  unfold bytesOf
  rw [this]
theorem bs_inj {s t : ByteArray} (h : bs s = bs t) : s = t := by rw [← of_bs s, h, of_bs]
theorem bytesOf_inj {l m : List Int} (hl : Bytes l) (hm : Bytes m) (h : bytesOf l = bytesOf m) : l = m := by rw [← bs_of hl, h, bs_of hm]
theorem size_of (l : List Int) : (bytesOf l).size = l.length := by
  show (bytesOf l).data.size = _
  simp [bytesOf]
theorem eq_bytes {l m : List Int} (hl : Bytes l) (hm : Bytes m) : ((bytesOf l).toList == (bytesOf m).toList) = decide (l = m) := by
  rw [Bool.eq_iff_iff, beq_iff_eq, decide_eq_true_eq]
  constructor
  · intro h
    rw [ByteArray.toList_eq, ByteArray.toList_eq] at h
    exact bytesOf_inj hl hm (by
      have := Array.toList_inj.1 h
      cases hx : bytesOf l; cases hy : bytesOf m
      rw [hx, hy] at this
      simpa using this)
  · rintro rfl; rfl
theorem ex_byte {l : List Int} (hl : Bytes l) {i : Nat} {Q : Int → Prop} : (∃ c : UInt8, (ByteArray.data (bytesOf l))[i]? = some c ∧ Q ((c.toNat : Nat) : Int)) ↔ (i < l.length ∧ Q (rd l i)) := by
  have key : (ByteArray.data (bytesOf l))[i]? = (l[i]?).map fun n => UInt8.ofNat n.toNat := by simp [bytesOf]
  constructor
  · rintro ⟨c, h, hq⟩
    rw [key, Option.map_eq_some_iff] at h
    obtain ⟨n, hn, rfl⟩ := h
    have := hl n (List.mem_of_getElem? hn)
    rw [u8_back this.1 this.2] at hq
    exact ⟨(List.getElem?_eq_some_iff.1 hn).1, by rw [rd_some hn]; exact hq⟩
  · rintro ⟨h, hq⟩
    have := hl.rd (by omega) i
    exact ⟨UInt8.ofNat (rd l i).toNat, by rw [key, some_rd h]; rfl, by rw [u8_back this.1 this.2]; exact hq⟩
theorem map_bs (s : ByteArray) : List.map (fun c : UInt8 => [FV.int .u8 ((c.toNat : Nat) : Int)]) (Array.toList (ByteArray.data s)) = ints .u8 (bs s) := by
  simp [ints, bs]
end Go.Proofs.YtejefchehdifhaaDoor.Ev
end
section
set_option linter.unusedVariables false
namespace Go.Proofs.YtejefchehdifhaaDoor.Ev
open Go Go.RowKit
theorem RepH.below {P : Program} {ext : Nat → Prop} {w0 : World} {own0 : Own0} {locs : Nat → Option Loc} {w w' : World} (H : RepH P ext w0 own0 locs [] w) (hb : Below w.heap.size w w') : RepH P ext w0 own0 locs [] w' := by
  have hown : ∀ b, ¬ ownB locs [] b := by rintro b ⟨o, l, d, ob, h1, _⟩; simp at h1
  refine ⟨H.len, fun o ob ho => by simp at ho, fun o o' l l' ob ob' d d' _ ho => by simp at ho, fun b _ hb => hown b hb, fun b hb' => Nat.lt_of_lt_of_le (H.extlt b hb') hb.size, fun b _ hb => absurd hb (hown b), ?_, H.base, H.pins⟩
  exact ⟨Nat.le_trans H.since.size hb.size, fun b hlt hn => (hb.block b (Nat.lt_of_lt_of_le hlt H.since.size)).trans (H.since.block b hlt hn), hb.os.trans H.since.os, hb.tape.trans H.since.tape, hb.output.trans H.since.output⟩
def bareV : FV → Option Value
  | .int k n => some (.int k n)
  | .bool b => some (.bool b)
  | .str s => some (.string s)
  | _ => none
theorem bareV_ok {w : World} {B : Nat → Prop} {x : FV} {v u : Value} (h : bareV x = some v) (hr : RF w B x u) : u = v := by
  cases x <;> cases h <;> cases hr <;> rfl
theorem bareV_rep {w : World} {B : Nat → Prop} {x : FV} {v : Value} (h : bareV x = some v) : RF w B x v := by
  cases x <;> cases h <;> constructor
theorem args_bare {w : World} {B : Nat → Prop} {locs : Nat → Option Loc} : ∀ (xs : List FV) (vs vals : List Value), xs.mapM bareV = some vs → vals.length = xs.length →
    (∀ (i : Nat) (x : TV), (xs.map fun x => TV.one (.fz x))[i]? = some x → ∃ v, vals[i]? = some v ∧ RT w B locs x v) → vals = vs
  | [], vs, vals, h, hl, _ => by
    simp at h hl
    rw [hl, ← h]
  | x :: xs, vs, [], h, hl, _ => by simp at hl
  | x :: xs, vs, v :: vals, h, hl, hr => by
    simp only [List.mapM_cons, Option.bind_eq_bind, Option.bind_eq_some_iff, Option.pure_def, Option.some.injEq] at h
    obtain ⟨u, hu, us, hus, rfl⟩ := h
    obtain ⟨v', hv', hr'⟩ := hr 0 _ rfl
    cases hv'
    have h1 := bareV_ok hu hr'
    have h2 := args_bare xs us vals hus (by simpa using hl) (fun i y hy => hr (i + 1) y (by simpa using hy))
    rw [h1, h2]
theorem Fn.of_below {P : Program} {f : FuncId} (xs : List FV) {vs : List Value} {r : FV} {v : Value} (hx : xs.mapM bareV = some vs) (hr : bareV r = some v)
    (hc : ∀ w, Glob w → Calls P f vs.toArray w fun e w' => e = .returned v ∧ Below w.heap.size w w') : Fn P f (xs.map fun x => .one (.fz x)) [] (.one (.fz r)) [] := by
  intro ext w locs vals H hsz hrep
  have e : vals = vs.toArray := by
    have := args_bare xs vs vals.toList hx (by simpa using hsz) (fun i x h => by obtain ⟨v, h1, h2⟩ := hrep i x h; exact ⟨v, by simpa using h1, h2⟩)
    rw [← this]
  subst e
  refine (hc w H.glob).mono ?_
  rintro e w' ⟨rfl, hb⟩
  exact ⟨v, locs, rfl, H.below hb, bareV_rep hr⟩
end Go.Proofs.YtejefchehdifhaaDoor.Ev
end
section
namespace Go.Proofs
open Go.Shelf
def Tryd.lays161_ren : Go.Shelf.Ren := ⟨fun | 161 => 40 | 231 => 50 | 227 => 52 | 233 => 53 | 235 => 55 | 228 => 65 | 197 => 66 | 151 => 67 | 260 => 79 | 152 => 80 | 137 => 45 | 119 => 33 | 224 => 88 | 225 => 89 | 217 => 61 | 266 => 74 | n => n, fun | 9 => 9 | 4 => 4 | 3 => 3 | 5 => 5 | 117 => 94 | 116 => 93 | 0 => 0 | 124 => 97 | 105 => 86 | 21 => 21 | 119 => 114 | 46 => 115 | 139 => 118 | 138 => 117 | n => n, fun | 3 => 1 | 4 => 2 | n => n⟩
theorem Tryd.lays161 : Go.Proofs.Lays.n161 Tryd.prog Tryd.lays161_ren := {
  mixed := by kernel_rfl
  f119 := Tryd.func33.trans (congrArg some (by kernel_rfl))
  f137 := Tryd.func45.trans (congrArg some (by kernel_rfl))
  f151 := Tryd.func67.trans (congrArg some (by kernel_rfl))
  f152 := Tryd.func80.trans (congrArg some (by kernel_rfl))
  f161 := Tryd.func40.trans (congrArg some (by kernel_rfl))
  f197 := Tryd.func66.trans (congrArg some (by kernel_rfl))
  f217 := Tryd.func61.trans (congrArg some (by kernel_rfl))
  f224 := Tryd.func88.trans (congrArg some (by kernel_rfl))
  f225 := Tryd.func89.trans (congrArg some (by kernel_rfl))
  f227 := Tryd.func52.trans (congrArg some (by kernel_rfl))
  f228 := Tryd.func65.trans (congrArg some (by kernel_rfl))
  f231 := Tryd.func50.trans (congrArg some (by kernel_rfl))
  f233 := Tryd.func53.trans (congrArg some (by kernel_rfl))
  f235 := Tryd.func55.trans (congrArg some (by kernel_rfl))
  f260 := Tryd.func79.trans (congrArg some (by kernel_rfl))
  f266 := Tryd.func74.trans (congrArg some (by kernel_rfl))
  t0 := Tryd.underlying0
  a0 := Tryd.isAgg0
  z0 := Tryd.sizeOf0
  v0 := Tryd.zeroValue0
  t3 := Tryd.underlying3
  a3 := Tryd.isAgg3
  z3 := Tryd.sizeOf3
  v3 := Tryd.zeroValue3
  t4 := Tryd.underlying4
  a4 := Tryd.isAgg4
  z4 := Tryd.sizeOf4
  v4 := Tryd.zeroValue4
  t5 := Tryd.underlying5
  a5 := Tryd.isAgg5
  z5 := Tryd.sizeOf5
  v5 := Tryd.zeroValue5
  t9 := Tryd.underlying9
  a9 := Tryd.isAgg9
  z9 := Tryd.sizeOf9
  v9 := Tryd.zeroValue9
  t21 := Tryd.underlying21
  a21 := Tryd.isAgg21
  z21 := Tryd.sizeOf21
  v21 := Tryd.zeroValue21
  t46 := Tryd.underlying115
  a46 := Tryd.isAgg115
  z46 := Tryd.sizeOf115
  v46 := Tryd.zeroValue115
  t105 := Tryd.underlying86
  a105 := Tryd.isAgg86
  z105 := Tryd.sizeOf86
  v105 := Tryd.zeroValue86
  t116 := Tryd.underlying93
  a116 := Tryd.isAgg93
  z116 := Tryd.sizeOf93
  t117 := Tryd.underlying94
  a117 := Tryd.isAgg94
  z117 := Tryd.sizeOf94
  v117 := Tryd.zeroValue94
  t119 := Tryd.underlying114
  a119 := Tryd.isAgg114
  z119 := Tryd.sizeOf114
  t124 := Tryd.underlying97
  a124 := Tryd.isAgg97
  z124 := Tryd.sizeOf97
  v124 := Tryd.zeroValue97
  t138 := Tryd.underlying117
  a138 := Tryd.isAgg117
  z138 := Tryd.sizeOf117
  v138 := Tryd.zeroValue117
  t139 := Tryd.underlying118
  a139 := Tryd.isAgg118
  z139 := Tryd.sizeOf118
  v139 := Tryd.zeroValue118
  g3 := by kernel_rfl
  g4 := by kernel_rfl }
open Go.RowKit in
theorem Tryd.strings_TrimLeft_one (s : ByteArray) (c : UInt8) (hc : c.toNat < 128) (w : World) :
    Calls Tryd.prog 40 #[.string s, .string ⟨#[c]⟩] w fun e w' => e = .returned (.string ⟨(Lib.trimLeftB s.data.toList c).toArray⟩) ∧ w' = w := Any.strings_TrimLeft_one Tryd.lays161 s c hc w
def Tryd.lays160_ren : Go.Shelf.Ren := ⟨fun | 160 => 39 | 232 => 51 | 231 => 50 | 227 => 52 | 234 => 54 | 233 => 53 | 236 => 56 | 235 => 55 | 228 => 65 | 271 => 68 | 151 => 67 | 197 => 66 | 120 => 81 | 152 => 80 | 260 => 79 | 137 => 45 | 119 => 33 | 224 => 88 | 225 => 89 | 217 => 61 | 266 => 74 | n => n, fun | 9 => 9 | 4 => 4 | 3 => 3 | 5 => 5 | 117 => 94 | 116 => 93 | 0 => 0 | 124 => 97 | 21 => 21 | 105 => 86 | 46 => 115 | 119 => 114 | 139 => 118 | 138 => 117 | n => n, fun | 3 => 1 | 4 => 2 | n => n⟩
theorem Tryd.lays160 : Go.Proofs.Lays.n160 Tryd.prog Tryd.lays160_ren := {
  mixed := by kernel_rfl
  f119 := Tryd.func33.trans (congrArg some (by kernel_rfl))
  f120 := Tryd.func81.trans (congrArg some (by kernel_rfl))
  f137 := Tryd.func45.trans (congrArg some (by kernel_rfl))
  f151 := Tryd.func67.trans (congrArg some (by kernel_rfl))
  f152 := Tryd.func80.trans (congrArg some (by kernel_rfl))
  f160 := Tryd.func39.trans (congrArg some (by kernel_rfl))
  f197 := Tryd.func66.trans (congrArg some (by kernel_rfl))
  f217 := Tryd.func61.trans (congrArg some (by kernel_rfl))
  f224 := Tryd.func88.trans (congrArg some (by kernel_rfl))
  f225 := Tryd.func89.trans (congrArg some (by kernel_rfl))
  f227 := Tryd.func52.trans (congrArg some (by kernel_rfl))
  f228 := Tryd.func65.trans (congrArg some (by kernel_rfl))
  f231 := Tryd.func50.trans (congrArg some (by kernel_rfl))
  f232 := Tryd.func51.trans (congrArg some (by kernel_rfl))
  f233 := Tryd.func53.trans (congrArg some (by kernel_rfl))
  f234 := Tryd.func54.trans (congrArg some (by kernel_rfl))
  f235 := Tryd.func55.trans (congrArg some (by kernel_rfl))
  f236 := Tryd.func56.trans (congrArg some (by kernel_rfl))
  f260 := Tryd.func79.trans (congrArg some (by kernel_rfl))
  f266 := Tryd.func74.trans (congrArg some (by kernel_rfl))
  f271 := Tryd.func68.trans (congrArg some (by kernel_rfl))
  t0 := Tryd.underlying0
  a0 := Tryd.isAgg0
  z0 := Tryd.sizeOf0
  v0 := Tryd.zeroValue0
  t3 := Tryd.underlying3
  a3 := Tryd.isAgg3
  z3 := Tryd.sizeOf3
  v3 := Tryd.zeroValue3
  t4 := Tryd.underlying4
  a4 := Tryd.isAgg4
  z4 := Tryd.sizeOf4
  v4 := Tryd.zeroValue4
  t5 := Tryd.underlying5
  a5 := Tryd.isAgg5
  z5 := Tryd.sizeOf5
  v5 := Tryd.zeroValue5
  t9 := Tryd.underlying9
  a9 := Tryd.isAgg9
  z9 := Tryd.sizeOf9
  v9 := Tryd.zeroValue9
  t21 := Tryd.underlying21
  a21 := Tryd.isAgg21
  z21 := Tryd.sizeOf21
  v21 := Tryd.zeroValue21
  t46 := Tryd.underlying115
  a46 := Tryd.isAgg115
  z46 := Tryd.sizeOf115
  v46 := Tryd.zeroValue115
  t105 := Tryd.underlying86
  a105 := Tryd.isAgg86
  z105 := Tryd.sizeOf86
  v105 := Tryd.zeroValue86
  t116 := Tryd.underlying93
  a116 := Tryd.isAgg93
  z116 := Tryd.sizeOf93
  t117 := Tryd.underlying94
  a117 := Tryd.isAgg94
  z117 := Tryd.sizeOf94
  v117 := Tryd.zeroValue94
  t119 := Tryd.underlying114
  a119 := Tryd.isAgg114
  z119 := Tryd.sizeOf114
  t124 := Tryd.underlying97
  a124 := Tryd.isAgg97
  z124 := Tryd.sizeOf97
  v124 := Tryd.zeroValue97
  t138 := Tryd.underlying117
  a138 := Tryd.isAgg117
  z138 := Tryd.sizeOf117
  v138 := Tryd.zeroValue117
  t139 := Tryd.underlying118
  a139 := Tryd.isAgg118
  z139 := Tryd.sizeOf118
  v139 := Tryd.zeroValue118
  g3 := by kernel_rfl
  g4 := by kernel_rfl }
def Tryd.lays137_ren : Go.Shelf.Ren := ⟨fun | 137 => 45 | 217 => 61 | 266 => 74 | n => n, fun | 9 => 9 | 5 => 5 | 3 => 3 | n => n, fun | n => n⟩
theorem Tryd.lays137 : Go.Proofs.Lays.n137 Tryd.prog Tryd.lays137_ren := {
  mixed := by kernel_rfl
  f137 := Tryd.func45.trans (congrArg some (by kernel_rfl))
  f217 := Tryd.func61.trans (congrArg some (by kernel_rfl))
  f266 := Tryd.func74.trans (congrArg some (by kernel_rfl))
  t3 := Tryd.underlying3
  a3 := Tryd.isAgg3
  z3 := Tryd.sizeOf3
  v3 := Tryd.zeroValue3
  t5 := Tryd.underlying5
  a5 := Tryd.isAgg5
  z5 := Tryd.sizeOf5
  v5 := Tryd.zeroValue5
  t9 := Tryd.underlying9
  a9 := Tryd.isAgg9
  z9 := Tryd.sizeOf9
  v9 := Tryd.zeroValue9 }
open Go.RowKit in
theorem Tryd.strings_IndexByte (s : ByteArray) (c : Int) (w : World) :
    Calls Tryd.prog 45 #[.string s, .int .u8 c] w fun e w' => e = .returned (.int .i64 (Lib.indexByte s.data.toList c.toNat.toUInt8)) ∧ w' = w := Any.strings_IndexByte Tryd.lays137 s c w
def Tryd.laysC172_ren : Go.Shelf.Ren := ⟨fun | 172 => 41 | 244 => 57 | 245 => 58 | 247 => 69 | 279 => 70 | 280 => 71 | 281 => 72 | 282 => 73 | 287 => 82 | 316 => 83 | 171 => 85 | 205 => 84 | 321 => 90 | 322 => 91 | 243 => 92 | 246 => 93 | 283 => 94 | 284 => 95 | 285 => 96 | 286 => 97 | 129 => 99 | 317 => 98 | 318 => 100 | 319 => 101 | 320 => 102 | 337 => 103 | 338 => 104 | n => n, fun | 9 => 9 | 3 => 3 | 75 => 81 | 76 => 82 | 4 => 4 | 5 => 5 | 167 => 108 | 37 => 41 | 0 => 0 | 85 => 109 | 2 => 2 | 168 => 111 | 53 => 124 | 175 => 125 | 46 => 115 | 210 => 129 | 127 => 133 | 145 => 136 | 143 => 134 | 21 => 21 | 171 => 138 | 173 => 141 | 212 => 144 | 51 => 78 | 20 => 20 | 213 => 145 | 232 => 148 | 233 => 149 | 80 => 150 | n => n, fun | 15 => 4 | 16 => 5 | 17 => 7 | 18 => 8 | 19 => 9 | n => n⟩
theorem Tryd.laysC172 : Go.Proofs.LaysC.n172 Tryd.prog Tryd.laysC172_ren := {
  mixed := by kernel_rfl
  f129 := Tryd.func99.trans (congrArg some (by kernel_rfl))
  f171 := Tryd.func85.trans (congrArg some (by kernel_rfl))
  f172 := Tryd.func41.trans (congrArg some (by kernel_rfl))
  f205 := Tryd.func84.trans (congrArg some (by kernel_rfl))
  f243 := Tryd.func92.trans (congrArg some (by kernel_rfl))
  f244 := Tryd.func57.trans (congrArg some (by kernel_rfl))
  f245 := Tryd.func58.trans (congrArg some (by kernel_rfl))
  f246 := Tryd.func93.trans (congrArg some (by kernel_rfl))
  f247 := Tryd.func69.trans (congrArg some (by kernel_rfl))
  f279 := Tryd.func70.trans (congrArg some (by kernel_rfl))
  f280 := Tryd.func71.trans (congrArg some (by kernel_rfl))
  f281 := Tryd.func72.trans (congrArg some (by kernel_rfl))
  f282 := Tryd.func73.trans (congrArg some (by kernel_rfl))
  f283 := Tryd.func94.trans (congrArg some (by kernel_rfl))
  f284 := Tryd.func95.trans (congrArg some (by kernel_rfl))
  f285 := Tryd.func96.trans (congrArg some (by kernel_rfl))
  f286 := Tryd.func97.trans (congrArg some (by kernel_rfl))
  f287 := Tryd.func82.trans (congrArg some (by kernel_rfl))
  f316 := Tryd.func83.trans (congrArg some (by kernel_rfl))
  f317 := Tryd.func98.trans (congrArg some (by kernel_rfl))
  f318 := Tryd.func100.trans (congrArg some (by kernel_rfl))
  f319 := Tryd.func101.trans (congrArg some (by kernel_rfl))
  f320 := Tryd.func102.trans (congrArg some (by kernel_rfl))
  f321 := Tryd.func90.trans (congrArg some (by kernel_rfl))
  f322 := Tryd.func91.trans (congrArg some (by kernel_rfl))
  f337 := Tryd.func103.trans (congrArg some (by kernel_rfl))
  f338 := Tryd.func104.trans (congrArg some (by kernel_rfl))
  t0 := Tryd.underlying0
  a0 := Tryd.isAgg0
  z0 := Tryd.sizeOf0
  v0 := Tryd.zeroValue0
  t2 := Tryd.underlying2
  a2 := Tryd.isAgg2
  z2 := Tryd.sizeOf2
  v2 := Tryd.zeroValue2
  t3 := Tryd.underlying3
  a3 := Tryd.isAgg3
  z3 := Tryd.sizeOf3
  v3 := Tryd.zeroValue3
  t4 := Tryd.underlying4
  a4 := Tryd.isAgg4
  z4 := Tryd.sizeOf4
  v4 := Tryd.zeroValue4
  t5 := Tryd.underlying5
  a5 := Tryd.isAgg5
  z5 := Tryd.sizeOf5
  v5 := Tryd.zeroValue5
  t9 := Tryd.underlying9
  a9 := Tryd.isAgg9
  z9 := Tryd.sizeOf9
  v9 := Tryd.zeroValue9
  t20 := Tryd.underlying20
  a20 := Tryd.isAgg20
  z20 := Tryd.sizeOf20
  v20 := Tryd.zeroValue20
  t21 := Tryd.underlying21
  a21 := Tryd.isAgg21
  z21 := Tryd.sizeOf21
  v21 := Tryd.zeroValue21
  t37 := Tryd.underlying41
  a37 := Tryd.isAgg41
  z37 := Tryd.sizeOf41
  v37 := Tryd.zeroValue41
  t46 := Tryd.underlying115
  a46 := Tryd.isAgg115
  z46 := Tryd.sizeOf115
  v46 := Tryd.zeroValue115
  t51 := Tryd.underlying78
  a51 := Tryd.isAgg78
  z51 := Tryd.sizeOf78
  v51 := Tryd.zeroValue78
  t53 := Tryd.underlying124
  a53 := Tryd.isAgg124
  z53 := Tryd.sizeOf124
  v53 := Tryd.zeroValue124
  t75 := Tryd.underlying81
  a75 := Tryd.isAgg81
  z75 := Tryd.sizeOf81
  v75 := Tryd.zeroValue81
  t76 := Tryd.underlying82
  a76 := Tryd.isAgg82
  z76 := Tryd.sizeOf82
  v76 := Tryd.zeroValue82
  t85 := Tryd.underlying109
  a85 := Tryd.isAgg109
  z85 := Tryd.sizeOf109
  v85 := Tryd.zeroValue109
  t127 := Tryd.underlying133
  a127 := Tryd.isAgg133
  z127 := Tryd.sizeOf133
  v127 := Tryd.zeroValue133
  t143 := Tryd.underlying134
  a143 := Tryd.isAgg134
  z143 := Tryd.sizeOf134
  v143 := Tryd.zeroValue134
  t145 := Tryd.underlying136
  a145 := Tryd.isAgg136
  z145 := Tryd.sizeOf136
  v145 := Tryd.zeroValue136
  t167 := Tryd.underlying108
  a167 := Tryd.isAgg108
  z167 := Tryd.sizeOf108
  v167 := Tryd.zeroValue108
  t168 := Tryd.underlying111
  a168 := Tryd.isAgg111
  z168 := Tryd.sizeOf111
  v168 := Tryd.zeroValue111
  t171 := Tryd.underlying138
  a171 := Tryd.isAgg138
  z171 := Tryd.sizeOf138
  v171 := Tryd.zeroValue138
  t173 := Tryd.underlying141
  a173 := Tryd.isAgg141
  z173 := Tryd.sizeOf141
  v173 := Tryd.zeroValue141
  t175 := Tryd.underlying125
  a175 := Tryd.isAgg125
  z175 := Tryd.sizeOf125
  v175 := Tryd.zeroValue125
  t210 := Tryd.underlying129
  a210 := Tryd.isAgg129
  z210 := Tryd.sizeOf129
  v210 := Tryd.zeroValue129
  t212 := Tryd.underlying144
  a212 := Tryd.isAgg144
  z212 := Tryd.sizeOf144
  v212 := Tryd.zeroValue144
  t213 := Tryd.underlying145
  a213 := Tryd.isAgg145
  z213 := Tryd.sizeOf145
  t232 := Tryd.underlying148
  a232 := Tryd.isAgg148
  z232 := Tryd.sizeOf148
  v232 := Tryd.zeroValue148
  t233 := Tryd.underlying149
  a233 := Tryd.isAgg149
  z233 := Tryd.sizeOf149
  v233 := Tryd.zeroValue149
  g15 := by kernel_rfl
  g16 := by kernel_rfl
  g17 := by kernel_rfl
  g18 := by kernel_rfl
  g19 := by kernel_rfl
  t80 := Tryd.underlying150
  a80 := Tryd.isAgg150
  z80 := Tryd.sizeOf150
  v80 := Tryd.zeroValue150
  i0 := by kernel_rfl
  i2 := by kernel_rfl
  i3 := by kernel_rfl
  i4 := by kernel_rfl
  i5 := by kernel_rfl
  i9 := by kernel_rfl
  i20 := by kernel_rfl
  i21 := by kernel_rfl
  i37 := by kernel_rfl
  i46 := by kernel_rfl
  i51 := by kernel_rfl
  i53 := by kernel_rfl
  i75 := by kernel_rfl
  i76 := by kernel_rfl
  i80 := by kernel_rfl
  i85 := by kernel_rfl
  i127 := by kernel_rfl
  i143 := by kernel_rfl
  i145 := by kernel_rfl
  i167 := by kernel_rfl
  i168 := by kernel_rfl
  i171 := by kernel_rfl
  i173 := by kernel_rfl
  i175 := by kernel_rfl
  i210 := by kernel_rfl
  i212 := by kernel_rfl
  i232 := by kernel_rfl
  i233 := by kernel_rfl
  m15 := by kernel_rfl
  m16 := by kernel_rfl
  m17 := by kernel_rfl
  m18 := by kernel_rfl
  m19 := by kernel_rfl
  c0 := by kernel_rfl
  c2 := by kernel_rfl
  c3 := by kernel_rfl
  c4 := by kernel_rfl
  c5 := by kernel_rfl
  c9 := by kernel_rfl
  c20 := by kernel_rfl
  c21 := by kernel_rfl
  c37 := by kernel_rfl
  c46 := by kernel_rfl
  c51 := by kernel_rfl
  c53 := by kernel_rfl
  c75 := by kernel_rfl
  c76 := by kernel_rfl
  c80 := by kernel_rfl
  c85 := by kernel_rfl
  c127 := by kernel_rfl
  c143 := by kernel_rfl
  c145 := by kernel_rfl
  c167 := by kernel_rfl
  c168 := by kernel_rfl
  c171 := by kernel_rfl
  c173 := by kernel_rfl
  c175 := by kernel_rfl
  c210 := by kernel_rfl
  c212 := by kernel_rfl
  c213 := by kernel_rfl
  c232 := by kernel_rfl
  c233 := by kernel_rfl }
open Go.RowKit in
theorem Tryd.strconv_Atoi_ok (s : ByteArray) (hmax : s.size ≤ 9223372036854775806) (v : Int) (h : Lib.atoiAll s.data.toList = .ok v) (w : World) :
    Calls Tryd.prog 41 #[.string s] w fun e w' => e = .returned (.tuple #[.int .i64 v, .nilIface]) ∧ (w' = w ∨ ∃ t, w' = Lib.bytesWorld w 5 t) := Any.strconv_Atoi_ok Tryd.laysC172 s hmax v h w
open Go.RowKit in
theorem Tryd.strconv_Atoi_syntax (s : ByteArray) (hlim : s.size ≤ 281474976710656) (h : Lib.atoiAll s.data.toList = Lib.atoiAll []) (ev : Value) (w : World) (hv : w.cell? ⟨4, 0, none⟩ = some ev) (hev : ev = .nilIface ∨ ∃ te pe, ev = .iface te pe) :
    Calls Tryd.prog 41 #[.string s] w fun e w' => ∃ N, e = .returned (.tuple #[.int .i64 (0), .iface 111 (.pointer (some ⟨N, 0, none⟩))]) ∧ w.heap.size ≤ N ∧ w'.heap[N]? = some (.cells #[.string ⟨#[65, 116, 111, 105]⟩, .string s, ev] 129 (0, 0)) ∧ Below w.heap.size w w' := Any.strconv_Atoi_syntax Tryd.laysC172 s hlim h ev w hv hev
open Go.RowKit in
theorem Tryd.strconv_Atoi_range (s : ByteArray) (hlim : s.size ≤ 281474976710656) (h : Lib.atoiAll s.data.toList = .range) (ev : Value) (w : World) (hv : w.cell? ⟨5, 0, none⟩ = some ev) (hev : ev = .nilIface ∨ ∃ te pe, ev = .iface te pe) :
    Calls Tryd.prog 41 #[.string s] w fun e w' => ∃ N, e = .returned (.tuple #[.int .i64 (Lib.atoiSat s.data.toList), .iface 111 (.pointer (some ⟨N, 0, none⟩))]) ∧ w.heap.size ≤ N ∧ w'.heap[N]? = some (.cells #[.string ⟨#[65, 116, 111, 105]⟩, .string s, ev] 129 (0, 0)) ∧ Below w.heap.size w w' := Any.strconv_Atoi_range Tryd.laysC172 s hlim h ev w hv hev
def Tryd.lays99_ren : Go.Shelf.Ren := ⟨fun | 99 => 29 | 206 => 44 | n => n, fun | 9 => 9 | 4 => 4 | 3 => 3 | n => n, fun | n => n⟩
theorem Tryd.lays99 : Go.Proofs.Lays.n99 Tryd.prog Tryd.lays99_ren := {
  mixed := by kernel_rfl
  f99 := Tryd.func29.trans (congrArg some (by kernel_rfl))
  f206 := Tryd.func44.trans (congrArg some (by kernel_rfl))
  t3 := Tryd.underlying3
  a3 := Tryd.isAgg3
  z3 := Tryd.sizeOf3
  v3 := Tryd.zeroValue3
  t4 := Tryd.underlying4
  a4 := Tryd.isAgg4
  z4 := Tryd.sizeOf4
  v4 := Tryd.zeroValue4
  t9 := Tryd.underlying9
  a9 := Tryd.isAgg9
  z9 := Tryd.sizeOf9
  v9 := Tryd.zeroValue9 }
open Go.RowKit Go.Lib in
theorem Tryd.strings_HasPrefix (s p : ByteArray) (w : World) :
    Calls Tryd.prog 29 #[.string s, .string p] w fun e w' => e = .returned (.bool (Lib.hasPrefix s.data.toList p.data.toList)) ∧ w' = w := Any.strings_HasPrefix Tryd.lays99 s p w
def Tryd.lays101_ren : Go.Shelf.Ren := ⟨fun | 101 => 38 | 208 => 49 | 206 => 44 | n => n, fun | 9 => 9 | 4 => 4 | 3 => 3 | n => n, fun | n => n⟩
theorem Tryd.lays101 : Go.Proofs.Lays.n101 Tryd.prog Tryd.lays101_ren := {
  mixed := by kernel_rfl
  f101 := Tryd.func38.trans (congrArg some (by kernel_rfl))
  f206 := Tryd.func44.trans (congrArg some (by kernel_rfl))
  f208 := Tryd.func49.trans (congrArg some (by kernel_rfl))
  t3 := Tryd.underlying3
  a3 := Tryd.isAgg3
  z3 := Tryd.sizeOf3
  v3 := Tryd.zeroValue3
  t4 := Tryd.underlying4
  a4 := Tryd.isAgg4
  z4 := Tryd.sizeOf4
  v4 := Tryd.zeroValue4
  t9 := Tryd.underlying9
  a9 := Tryd.isAgg9
  z9 := Tryd.sizeOf9
  v9 := Tryd.zeroValue9 }
open Go.RowKit Go.Lib in
theorem Tryd.strings_TrimPrefix (s p : ByteArray) (w : World) :
    Calls Tryd.prog 38 #[.string s, .string p] w fun e w' => e = .returned (.string ⟨(Lib.trimPrefix s.data.toList p.data.toList).toArray⟩) ∧ w' = w := Any.strings_TrimPrefix Tryd.lays101 s p w
def Tryd.lays197_ren : Go.Shelf.Ren := ⟨fun | 197 => 66 | 260 => 79 | n => n, fun | 9 => 9 | 21 => 21 | 3 => 3 | 4 => 4 | 5 => 5 | 105 => 86 | 119 => 114 | 0 => 0 | 46 => 115 | 139 => 118 | 138 => 117 | n => n, fun | 3 => 1 | 4 => 2 | n => n⟩
theorem Tryd.lays197 : Go.Proofs.Lays.n197 Tryd.prog Tryd.lays197_ren := {
  mixed := by kernel_rfl
  f197 := Tryd.func66.trans (congrArg some (by kernel_rfl))
  f260 := Tryd.func79.trans (congrArg some (by kernel_rfl))
  t0 := Tryd.underlying0
  a0 := Tryd.isAgg0
  z0 := Tryd.sizeOf0
  v0 := Tryd.zeroValue0
  t3 := Tryd.underlying3
  a3 := Tryd.isAgg3
  z3 := Tryd.sizeOf3
  v3 := Tryd.zeroValue3
  t4 := Tryd.underlying4
  a4 := Tryd.isAgg4
  z4 := Tryd.sizeOf4
  v4 := Tryd.zeroValue4
  t5 := Tryd.underlying5
  a5 := Tryd.isAgg5
  z5 := Tryd.sizeOf5
  v5 := Tryd.zeroValue5
  t9 := Tryd.underlying9
  a9 := Tryd.isAgg9
  z9 := Tryd.sizeOf9
  v9 := Tryd.zeroValue9
  t21 := Tryd.underlying21
  a21 := Tryd.isAgg21
  z21 := Tryd.sizeOf21
  v21 := Tryd.zeroValue21
  t46 := Tryd.underlying115
  a46 := Tryd.isAgg115
  z46 := Tryd.sizeOf115
  v46 := Tryd.zeroValue115
  t105 := Tryd.underlying86
  a105 := Tryd.isAgg86
  z105 := Tryd.sizeOf86
  v105 := Tryd.zeroValue86
  t119 := Tryd.underlying114
  a119 := Tryd.isAgg114
  z119 := Tryd.sizeOf114
  t138 := Tryd.underlying117
  a138 := Tryd.isAgg117
  z138 := Tryd.sizeOf117
  v138 := Tryd.zeroValue117
  t139 := Tryd.underlying118
  a139 := Tryd.isAgg118
  z139 := Tryd.sizeOf118
  v139 := Tryd.zeroValue118
  g3 := by kernel_rfl
  g4 := by kernel_rfl }
open Go.RowKit Go.Lib in
theorem Tryd.utf8_DecodeRuneInString (s : ByteArray) (w : World) (hT : Lib.Utf8Tabs 1 2 w) :
    Calls Tryd.prog 66 #[.string s] w fun e w' => e = .returned (.tuple #[.int .i32 (Lib.decodeGo s).1, .int .i64 (Lib.decodeGo s).2]) ∧ Below w.heap.size w w' := Any.utf8_DecodeRuneInString Tryd.lays197 s w hT
def Tryd.lays7n32_ren : Go.Shelf.Ren := ⟨fun | 32 => 43 | 49 => 60 | n => n, fun | 30 => 41 | 21 => 21 | 3 => 3 | 0 => 0 | 5 => 5 | 4 => 4 | 33 => 86 | 66 => 114 | 25 => 115 | 69 => 118 | 68 => 117 | n => n, fun | 2 => 1 | 3 => 2 | n => n⟩
theorem Tryd.lays7n32 : Go.Proofs.Lays7.n32 Tryd.prog Tryd.lays7n32_ren := {
  mixed := by kernel_rfl
  f32 := Tryd.func43.trans (congrArg some (by kernel_rfl))
  f49 := Tryd.func60.trans (congrArg some (by kernel_rfl))
  t0 := Tryd.underlying0
  a0 := Tryd.isAgg0
  z0 := Tryd.sizeOf0
  v0 := Tryd.zeroValue0
  i0 := by kernel_rfl
  t3 := Tryd.underlying3
  a3 := Tryd.isAgg3
  z3 := Tryd.sizeOf3
  v3 := Tryd.zeroValue3
  i3 := by kernel_rfl
  t4 := Tryd.underlying4
  a4 := Tryd.isAgg4
  z4 := Tryd.sizeOf4
  v4 := Tryd.zeroValue4
  i4 := by kernel_rfl
  t5 := Tryd.underlying5
  a5 := Tryd.isAgg5
  z5 := Tryd.sizeOf5
  v5 := Tryd.zeroValue5
  i5 := by kernel_rfl
  t21 := Tryd.underlying21
  a21 := Tryd.isAgg21
  z21 := Tryd.sizeOf21
  v21 := Tryd.zeroValue21
  i21 := by kernel_rfl
  t25 := Tryd.underlying115
  a25 := Tryd.isAgg115
  z25 := Tryd.sizeOf115
  v25 := Tryd.zeroValue115
  i25 := by kernel_rfl
  t30 := Tryd.underlying41
  a30 := Tryd.isAgg41
  z30 := Tryd.sizeOf41
  v30 := Tryd.zeroValue41
  i30 := by kernel_rfl
  t33 := Tryd.underlying86
  a33 := Tryd.isAgg86
  z33 := Tryd.sizeOf86
  v33 := Tryd.zeroValue86
  i33 := by kernel_rfl
  t66 := Tryd.underlying114
  a66 := Tryd.isAgg114
  z66 := Tryd.sizeOf114
  t68 := Tryd.underlying117
  a68 := Tryd.isAgg117
  z68 := Tryd.sizeOf117
  v68 := Tryd.zeroValue117
  i68 := by kernel_rfl
  t69 := Tryd.underlying118
  a69 := Tryd.isAgg118
  z69 := Tryd.sizeOf118
  v69 := Tryd.zeroValue118
  i69 := by kernel_rfl
  g2 := by kernel_rfl
  g3 := by kernel_rfl }
open Go.RowKit in
theorem Tryd.utf8_DecodeRune (s : ByteArray) (b off cap : Nat) (w : World) (hT : Lib.Utf8Tabs 1 2 w) (hp : ∀ j, j < s.size → w.cell? ⟨b, off + j, none⟩ = some (.int .u8 (s.get! j).toNat)) :
    Calls Tryd.prog 43 #[.slice (some ⟨b, off, none⟩) s.size cap] w fun e w' => e = .returned (.tuple #[.int .i32 (Lib.decodeGo s).1, .int .i64 (Lib.decodeGo s).2]) ∧ Below w.heap.size w w' := Any7.utf8_DecodeRune Tryd.lays7n32 s b off cap w hT hp
end Go.Proofs
end
section
set_option linter.unusedVariables false
set_option linter.unusedSimpArgs false
namespace Go.Proofs.YtejefchehdifhaaDoor.Ev
open Go Go.RowKit
def errV (b : Bool) (v : Value) : Prop := if b = true then ∃ t u, v = .iface t u else v = .nilIface
theorem Fn.of_below_ie {P : Program} {f : FuncId} (xs : List FV) {vs : List Value} {n : Int} {b : Bool} (hx : xs.mapM bareV = some vs)
    (hc : ∀ w, Glob w → Calls P f vs.toArray w fun e w' => (∃ v, e = .returned (.tuple #[.int .i64 n, v]) ∧ errV b v) ∧ Below w.heap.size w w') : Fn P f (xs.map fun x => .one (.fz x)) [] (.tup [(false, [.fz (.int .i64 n)]), (false, [.fz (.ifc b)])]) [] := by
  intro ext w locs vals H hsz hrep
  have e : vals = vs.toArray := by
    have := args_bare xs vs vals.toList hx (by simpa using hsz) (fun i x h => by obtain ⟨v, h1, h2⟩ := hrep i x h; exact ⟨v, by simpa using h1, h2⟩)
    rw [← this]
  subst e
  refine (hc w H.glob).mono ?_
  rintro e w' ⟨⟨v, rfl, hv⟩, hb⟩
  refine ⟨.tuple #[.int .i64 n, v], locs, rfl, H.below hb, #[.int .i64 n, v], rfl, rfl, fun i b' cs hi => ?_⟩
  match i with
  | 0 =>
    cases hi
    refine ⟨.int .i64 n, rfl, [.int .i64 n], rfl, rfl, fun _ => rfl, fun j x hj => ?_⟩
    cases j with
    | zero => cases hj; exact ⟨_, rfl, .int _ _⟩
    | succ j => simp at hj
  | 1 =>
    cases hi
    refine ⟨v, rfl, [v], rfl, rfl, fun _ => rfl, fun j x hj => ?_⟩
    cases j with
    | zero =>
      cases hj
      refine ⟨v, rfl, ?_⟩
      cases b
      · have : v = .nilIface := hv
        subst this
        exact .ifcN
      · obtain ⟨t, u, rfl⟩ := hv
        exact .ifcS _ _
    | succ j => simp at hj
  | i + 2 => simp at hi
theorem tab_ifc {w : World} {g : Nat} (h : TabAt w (fun _ => True) g [.ifc true]) : ∃ t u, w.cell? ⟨g, 0, none⟩ = some (.iface t u) := by
  obtain ⟨c, t, z, h1, h2, h3⟩ := h
  obtain ⟨v, hv, hr⟩ := h3 0 _ rfl
  cases hr
  rename_i t' v'
  exact ⟨t', v', by simp [World.cell?, h1, hv]⟩
def atoiV (s : ByteArray) : Int := match Lib.atoiAll s.data.toList with
  | .ok v => v
  | .range => Lib.atoiSat s.data.toList
  | _ => 0
def atoiE (s : ByteArray) : Bool := match Lib.atoiAll s.data.toList with
  | .ok _ => false
  | _ => true
theorem Atoi_fn (s : ByteArray) (hs : s.size ≤ 281474976710656) : Fn Tryd.prog 41 [.one (.fz (.str s))] [] (.tup [(false, [.fz (.int .i64 (atoiV s))]), (false, [.fz (.ifc (atoiE s))])]) [] :=
  Fn.of_below_ie [.str s] rfl fun w hg => by
    unfold atoiV atoiE
    cases h : Lib.atoiAll s.data.toList
    case ok v =>
      refine (Tryd.strconv_Atoi_ok s (by omega) v h w).mono ?_
      rintro e w' ⟨rfl, hw⟩
      refine ⟨⟨_, rfl, rfl⟩, ?_⟩
      rcases hw with rfl | ⟨t, rfl⟩
      · exact Below.refl _ _
      · exact Lib.bytesWorld_below _ _ _
    case range =>
      have h1 := hg (5, [.ifc true]) (by simp [tabs])
      obtain ⟨t, u, h2⟩ := tab_ifc h1
      refine (Tryd.strconv_Atoi_range s hs h _ w h2 (.inr ⟨_, _, rfl⟩)).mono ?_
      rintro e w' ⟨N, rfl, _, _, hb⟩
      exact ⟨⟨_, rfl, _, _, rfl⟩, hb⟩
    all_goals
      have h1 := hg (4, [.ifc true]) (by simp [tabs])
      obtain ⟨t, u, h2⟩ := tab_ifc h1
      refine (Tryd.strconv_Atoi_syntax s hs h _ w h2 (.inr ⟨_, _, rfl⟩)).mono ?_
      rintro e w' ⟨N, rfl, _, _, hb⟩
      exact ⟨⟨_, rfl, _, _, rfl⟩, hb⟩
theorem TrimPrefix_fn (s p : ByteArray) : Fn Tryd.prog 38 [.one (.fz (.str s)), .one (.fz (.str p))] [] (.one (.fz (.str ⟨(Lib.trimPrefix s.data.toList p.data.toList).toArray⟩))) [] :=
  Fn.of_below [.str s, .str p] rfl rfl fun w hg => (Tryd.strings_TrimPrefix s p w).mono fun e w' ⟨h1, h2⟩ => ⟨h1, h2 ▸ Below.refl _ _⟩
theorem TrimLeft_fn (s : ByteArray) (c : UInt8) (hc : c.toNat < 128) : Fn Tryd.prog 40 [.one (.fz (.str s)), .one (.fz (.str ⟨#[c]⟩))] [] (.one (.fz (.str ⟨(Lib.trimLeftB s.data.toList c).toArray⟩))) [] :=
  Fn.of_below [.str s, .str ⟨#[c]⟩] rfl rfl fun w hg => (Tryd.strings_TrimLeft_one s c hc w).mono fun e w' ⟨h1, h2⟩ => ⟨h1, h2 ▸ Below.refl _ _⟩
theorem Trim_fn (s cs : ByteArray) (hs : s.size ≤ 9223372036854775807) (hcs : cs.size < 4294967281) (ha : cs.data.toList.all (fun b => decide (b.toNat < 128)) = true) :
    Fn Tryd.prog 39 [.one (.fz (.str s)), .one (.fz (.str cs))] [] (.one (.fz (.str ⟨(Lib.trimS s.data.toList cs.data.toList).toArray⟩))) [] :=
  Fn.of_below [.str s, .str cs] rfl rfl fun w hg => Any.strings_Trim_laid Tryd.lays160 (by kernel_rfl) s cs w hs hcs (ascii_of_all ha)
end Go.Proofs.YtejefchehdifhaaDoor.Ev
end
section
set_option linter.unusedVariables false
set_option maxRecDepth 100000
namespace Go.Proofs.YtejefchehdifhaaDoor.Ev
open Go
def num_Parse_lv : List Nat → Keep := lvOf [([0, 1, 0, 1, 1, 1, 1, 1, 1, 1, 1], ⟨244, 0, [], false, false⟩)]
def num_Parse_S0 (s4 : ByteArray) (minus : Bool) (end_ : Int) (o : List (List FV)) : St := (St.mk [TV.und, TV.und, (TV.one (AV.ptr 0 0 0 0)), TV.und, (TV.one (AV.fz (FV.str s4))), (TV.one (AV.fz (FV.bool minus))), (TV.one (AV.ofl 1 1)), (TV.one (AV.fz (FV.int .i64 end_))), TV.und, TV.und, TV.und, TV.und, TV.und, TV.und, TV.und, TV.und, TV.und, TV.und, TV.und, TV.und, TV.und, TV.und, TV.und, TV.und, TV.und, TV.und, TV.und, TV.und, TV.und, TV.und, TV.und, TV.und, TV.und, TV.und, TV.und, TV.und, TV.und, TV.und, TV.und, TV.und, TV.und, TV.und, TV.und, TV.und, TV.und, TV.und, TV.und, TV.und, TV.und, TV.und, TV.und, TV.und, TV.und, TV.und, TV.und, TV.und, TV.und, TV.und, TV.und, TV.und, TV.und, TV.und, TV.und, TV.und, TV.und] [(Ob.g 31 [(AV.fz (FV.bool false)), (AV.ofl 1 2)]), (Ob.f 0 1 o), (Ob.f 0 1 ([] : List (List FV)))])
def num_Parse_L0 (R : TV → List Ob → Prop) (s4 : ByteArray) (minus : Bool) (end_ : Int) (o : List (List FV)) : Prop := LoopAt Tryd.prog (modeOf [] []) num_Parse_lv Tryd.f27 none R [1, 1, 1, 1, 1, 1, 1, 1, 0, 1, 0] (num_Parse_S0 s4 minus end_ o)
def num_Parse_R0 (R : TV → List Ob → Prop) (s4 : ByteArray) (minus : Bool) (end_ : Int) (o : List (List FV)) : Prop :=
  ((((decide ((0 : Int) < end_)) = true) → ((((0 : Int) ≤ (if ((0 : Int) > (IntKind.wrap .i64 (end_ - 9))) then 0 else (IntKind.wrap .i64 (end_ - 9)))) ∧ (((if ((0 : Int) > (IntKind.wrap .i64 (end_ - 9))) then 0 else (IntKind.wrap .i64 (end_ - 9))) ≤ end_) ∧ (end_ ≤ (((ByteArray.size s4) : Nat) : Int)))) ∧ (∃ n6 : Int, (∃ b6 : Bool, ((Fn Tryd.prog 41 [(TV.one (AV.fz (FV.str (ByteArray.extract s4 (Int.toNat (if ((0 : Int) > (IntKind.wrap .i64 (end_ - 9))) then 0 else (IntKind.wrap .i64 (end_ - 9)))) (Int.toNat end_)))))] [] (TV.tup [(false, [(AV.fz (FV.int .i64 n6))]), (false, [(AV.fz (FV.ifc b6))])]) []) ∧ (((((List.length o) + (List.length [[(FV.int .u32 (IntKind.wrap .u32 n6))]])) * 4) ≤ 220000000000000) ∧ (num_Parse_L0 R s4 minus (IntKind.wrap .i64 (end_ - 9)) (o ++ [[(FV.int .u32 (IntKind.wrap .u32 n6))]])))))))) ∧ (((decide ((0 : Int) < end_)) = false) → (∃ b7 : Bool, (∃ es3 : List (List FV), (∃ n7 : Int, ((Fn Tryd.prog 42 [(TV.one (AV.fz (FV.bool minus))), (TV.one (AV.fz (FV.sl 1 o)))] [] (TV.tup [(true, [(AV.fz (FV.bool b7)), (AV.fz (FV.sl 1 es3))]), (false, [(AV.fz (FV.int .i64 n7))])]) []) ∧ (R (TV.tup [(true, [(AV.fz (FV.bool b7)), (AV.fz (FV.sl 1 es3))]), (false, [(AV.fz (FV.bool (n7 == 0)))])]) [])))))))
theorem num_Parse_l0 {R : TV → List Ob → Prop} {s4 : ByteArray} {minus : Bool} {end_ : Int} {o : List (List FV)} (h : num_Parse_R0 R s4 minus end_ o) : num_Parse_L0 R s4 minus end_ o :=
  LoopAt.by_tr (by kernel_rfl) (by kernel_rfl) h
def num_Parse_H (R : TV → List Ob → Prop) (s : ByteArray) : Prop :=
  (∃ s7 : ByteArray, ((Fn Tryd.prog 38 [(TV.one (AV.fz (FV.str s))), (TV.one (AV.fz (FV.str (ByteArray.mk #[45]))))] [] (TV.one (AV.fz (FV.str s7))) []) ∧ ((((Bool.not (Bool.not ((ByteArray.toList s7) == (ByteArray.toList s)))) = true) → (∃ s8 : ByteArray, ((Fn Tryd.prog 38 [(TV.one (AV.fz (FV.str s))), (TV.one (AV.fz (FV.str (ByteArray.mk #[43]))))] [] (TV.one (AV.fz (FV.str s8))) []) ∧ (((((ByteArray.toList s8) == (ByteArray.toList (ByteArray.mk #[]))) = true) → (R (TV.tup [(true, [(AV.fz (FV.bool false)), (AV.fz (FV.sl 1 ([] : List (List FV))))]), (false, [(AV.fz (FV.bool false))])]) [])) ∧ ((((ByteArray.toList s8) == (ByteArray.toList (ByteArray.mk #[]))) = false) → (∃ s9 : ByteArray, ((Fn Tryd.prog 39 [(TV.one (AV.fz (FV.str s8))), (TV.one (AV.fz (FV.str (ByteArray.mk #[48, 49, 50, 51, 52, 53, 54, 55, 56, 57]))))] [] (TV.one (AV.fz (FV.str s9))) []) ∧ ((((Bool.not ((ByteArray.toList s9) == (ByteArray.toList (ByteArray.mk #[])))) = true) → (R (TV.tup [(true, [(AV.fz (FV.bool false)), (AV.fz (FV.sl 1 ([] : List (List FV))))]), (false, [(AV.fz (FV.bool false))])]) [])) ∧ (((Bool.not ((ByteArray.toList s9) == (ByteArray.toList (ByteArray.mk #[])))) = false) → (∃ s10 : ByteArray, ((Fn Tryd.prog 40 [(TV.one (AV.fz (FV.str s8))), (TV.one (AV.fz (FV.str (ByteArray.mk #[48]))))] [] (TV.one (AV.fz (FV.str s10))) []) ∧ ((((decide ((576 : Int) < (((ByteArray.size s10) : Nat) : Int))) = true) → (R (TV.tup [(true, [(AV.fz (FV.bool false)), (AV.fz (FV.sl 1 ([] : List (List FV))))]), (false, [(AV.fz (FV.bool false))])]) [])) ∧ (((decide ((576 : Int) < (((ByteArray.size s10) : Nat) : Int))) = false) → (num_Parse_L0 R s10 (Bool.not ((ByteArray.toList s7) == (ByteArray.toList s))) (((ByteArray.size s10) : Nat) : Int) ([] : List (List FV)))))))))))))))) ∧ (((Bool.not (Bool.not ((ByteArray.toList s7) == (ByteArray.toList s)))) = false) → (((((ByteArray.toList s7) == (ByteArray.toList (ByteArray.mk #[]))) = true) → (R (TV.tup [(true, [(AV.fz (FV.bool false)), (AV.fz (FV.sl 1 ([] : List (List FV))))]), (false, [(AV.fz (FV.bool false))])]) [])) ∧ ((((ByteArray.toList s7) == (ByteArray.toList (ByteArray.mk #[]))) = false) → (∃ s11 : ByteArray, ((Fn Tryd.prog 39 [(TV.one (AV.fz (FV.str s7))), (TV.one (AV.fz (FV.str (ByteArray.mk #[48, 49, 50, 51, 52, 53, 54, 55, 56, 57]))))] [] (TV.one (AV.fz (FV.str s11))) []) ∧ ((((Bool.not ((ByteArray.toList s11) == (ByteArray.toList (ByteArray.mk #[])))) = true) → (R (TV.tup [(true, [(AV.fz (FV.bool false)), (AV.fz (FV.sl 1 ([] : List (List FV))))]), (false, [(AV.fz (FV.bool false))])]) [])) ∧ (((Bool.not ((ByteArray.toList s11) == (ByteArray.toList (ByteArray.mk #[])))) = false) → (∃ s12 : ByteArray, ((Fn Tryd.prog 40 [(TV.one (AV.fz (FV.str s7))), (TV.one (AV.fz (FV.str (ByteArray.mk #[48]))))] [] (TV.one (AV.fz (FV.str s12))) []) ∧ ((((decide ((576 : Int) < (((ByteArray.size s12) : Nat) : Int))) = true) → (R (TV.tup [(true, [(AV.fz (FV.bool false)), (AV.fz (FV.sl 1 ([] : List (List FV))))]), (false, [(AV.fz (FV.bool false))])]) [])) ∧ (((decide ((576 : Int) < (((ByteArray.size s12) : Nat) : Int))) = false) → (num_Parse_L0 R s12 (Bool.not ((ByteArray.toList s7) == (ByteArray.toList s))) (((ByteArray.size s12) : Nat) : Int) ([] : List (List FV)))))))))))))))))
theorem num_Parse_fn (s : ByteArray) {r : TV} {h : List Ob} (H : num_Parse_H (fun r' h' => r' = r ∧ h' = h) s) : Fn Tryd.prog 27 [(TV.one (AV.fz (FV.str s)))] [] r h :=
  Fn.by_tr (M := (modeOf [] [])) (lv := num_Parse_lv) (own := none) (F := Tryd.f27) (by kernel_rfl) (by kernel_rfl) (by first | decide | simp) (fun _ _ h => h) (by kernel_rfl) H
end Go.Proofs.YtejefchehdifhaaDoor.Ev
end
section
set_option linter.unusedVariables false
set_option linter.unusedSimpArgs false
namespace Go.Proofs.YtejefchehdifhaaDoor.Ev
open Go
def bv (acc : Int) (ds : List Int) : Int := ds.foldl (fun a d => a * 10 + d) acc
def ub (ds : List Int) : List UInt8 := ds.map fun d => UInt8.ofNat (48 + d).toNat
theorem bv_snoc (acc : Int) (ds : List Int) (d : Int) : bv acc (ds ++ [d]) = bv acc ds * 10 + d := by simp [bv]
theorem bv_val : ∀ l : List Int, bv 0 l.reverse = val 10 l
  | [] => rfl
  | d :: l => by rw [List.reverse_cons, bv_snoc, bv_val l]; show _ = d + 10 * val 10 l; omega
theorem bv_ge : ∀ (ds : List Int) (acc : Int), 0 ≤ acc → Lim 10 ds → acc ≤ bv acc ds
  | [], acc, _, _ => Int.le_refl _
  | d :: ds, acc, h0, h => by
    have hd := h d List.mem_cons_self
    have := bv_ge ds (acc * 10 + d) (by omega) (fun x hx => h x (List.mem_cons_of_mem _ hx))
    show acc ≤ bv (acc * 10 + d) ds
    omega
theorem ub_digit {d : Int} (h0 : 0 ≤ d) (h1 : d < 10) : (UInt8.ofNat (48 + d).toNat).toNat = 48 + d.toNat := by
  rw [UInt8.toNat_ofNat']; omega
theorem parse_ub : ∀ (ds : List Int) (acc : Nat), acc < 18446744073709551616 → Lim 10 ds → Lib.parseUint10 acc (ub ds) = if bv acc ds < 18446744073709551616 then .ok (bv acc ds).toNat else .range
  | [], acc, ha, _ => by
    show Lib.NumEnd.ok acc = _
    have : bv acc [] = acc := rfl
    rw [this, if_pos (by omega)]; simp
  | d :: ds, acc, ha, h => by
    have hd := h d List.mem_cons_self
    have ht : Lim 10 ds := fun x hx => h x (List.mem_cons_of_mem _ hx)
    have e := ub_digit hd.1 hd.2
    show Lib.parseUint10 acc (UInt8.ofNat (48 + d).toNat :: ub ds) = _
    have hb : bv acc (d :: ds) = bv (acc * 10 + d) ds := rfl
    have hg := bv_ge ds (acc * 10 + d) (by omega) ht
    unfold Lib.parseUint10
    rw [e, if_pos (by omega), hb]
    have e2 : 48 + d.toNat - 48 = d.toNat := by omega
    rw [e2]
    by_cases h1 : 1844674407370955162 ≤ acc
    · rw [if_pos h1, if_neg (by omega)]
    · rw [if_neg h1]
      by_cases h2 : 18446744073709551616 ≤ acc * 10 + d.toNat
      · rw [if_pos h2, if_neg (by omega)]
      · rw [if_neg h2, parse_ub ds _ (by omega) ht]
        have : (((acc * 10 + d.toNat : Nat)) : Int) = acc * 10 + d := by omega
        rw [this]
theorem data_of (l : List Int) : (bytesOf l).data.toList = l.map fun n => UInt8.ofNat n.toNat := by simp [bytesOf]
end Go.Proofs.YtejefchehdifhaaDoor.Ev
end
section
set_option linter.unusedVariables false
set_option linter.unusedSimpArgs false
namespace Go.Proofs.YtejefchehdifhaaDoor.Ev
open Go
theorem ba_ext {s t : ByteArray} (h : s.data.toList = t.data.toList) : s = t := by
  cases s; cases t
  congr
  exact Array.toList_inj.1 h
def tb (ds : List Int) : ByteArray := ⟨(ub ds).toArray⟩
theorem tb_size (ds : List Int) : (tb ds).size = ds.length := by
  show (tb ds).data.size = _
  simp [tb, ub]
theorem tb_extract (ds : List Int) (a b : Nat) : (tb ds).extract a b = tb ((ds.drop a).take (b - a)) := by
  refine ba_ext ?_
  have h := Lib.extract_toList (tb ds) a b
  rw [ByteArray.toList_eq] at h
  rw [h]
  simp [tb, ub]
theorem app_of (l m : List Int) : bytesOf l ++ bytesOf m = bytesOf (l ++ m) := by
  refine ba_ext ?_
  simp [bytesOf, ByteArray.data_append]
theorem extract_of (l : List Int) (a b : Nat) : (bytesOf l).extract a b = bytesOf ((l.drop a).take (b - a)) := by
  refine ba_ext ?_
  have h := Lib.extract_toList (bytesOf l) a b
  rw [ByteArray.toList_eq] at h
  rw [h]
  simp [bytesOf]
theorem bv_app (l m : List Int) (acc : Int) : bv acc (l ++ m) = bv (bv acc l) m := by simp [bv]
theorem bv_acc : ∀ (m : List Int) (acc : Int), bv acc m = acc * 10 ^ m.length + bv 0 m
  | [], acc => by show acc = acc * 10 ^ 0 + 0; rw [Int.pow_zero]; omega
  | d :: m, acc => by
    show bv (acc * 10 + d) m = _
    rw [bv_acc m (acc * 10 + d)]
    have h : bv 0 (d :: m) = bv (0 * 10 + d) m := rfl
    rw [h, bv_acc m (0 * 10 + d), List.length_cons, Int.pow_succ]
    grind
theorem bv_join (l m : List Int) : bv 0 (l ++ m) = bv 0 l * 10 ^ m.length + bv 0 m := by rw [bv_app, bv_acc]
theorem bv_nonneg (l : List Int) (h : Lim 10 l) : 0 ≤ bv 0 l := bv_ge l 0 (by omega) h
theorem bv_lt (l : List Int) (h : Lim 10 l) : bv 0 l < 10 ^ l.length := by
  have h1 := bv_val l.reverse
  rw [List.reverse_reverse] at h1
  have h2 := val_lt (B := 10) (by omega) (l := l.reverse) (fun x hx => h x (by simpa using hx))
  rw [List.length_reverse] at h2
  omega
theorem bv_cut : ∀ l : List Int, bv 0 (l.dropWhile (· == 0)) = bv 0 l
  | [] => rfl
  | d :: l => by
    rw [List.dropWhile_cons]
    split
    · rename_i h
      have : d = 0 := by simpa using h
      subst this
      exact bv_cut l
    · rfl
theorem cut_norm (l : List Int) : Norm (l.dropWhile (· == 0)).reverse := by
  intro hne
  rw [List.getLast_reverse]
  have h1 : l.dropWhile (· == 0) ≠ [] := by simpa using hne
  have := List.head_dropWhile_not (p := fun x : Int => x == 0) (l := l) h1
  simpa using this
theorem cut_lim {l : List Int} (h : Lim 10 l) : Lim 10 (l.dropWhile (· == 0)) := fun x hx => h x ((List.dropWhile_sublist _).subset hx)
theorem cut_digs {l : List Int} (h : Lim 10 l) : (digs 10 (bv 0 l).toNat).length = (l.dropWhile (· == 0)).length := by
  have h1 := bv_val (l.dropWhile (· == 0)).reverse
  rw [List.reverse_reverse, bv_cut] at h1
  have hL : Lim 10 (l.dropWhile (· == 0)).reverse := fun x hx => cut_lim h x (by simpa using hx)
  rw [h1, digsT_eq hL (cut_norm l), List.length_reverse]
theorem atoi_short {ds : List Int} (hne : ds ≠ []) (h : Lim 10 ds) (hl : ds.length ≤ 9) : Lib.atoiAll (ub ds) = .ok (bv 0 ds) := by
  have h0 := bv_nonneg ds h
  have h1 := bv_lt ds h
  have h2 := pow_mono (B := 10) (by omega) hl
  have e9 : (10 : Int) ^ 9 = 1000000000 := by decide
  match ds, hne with
  | d :: ds, _ =>
    have hd := h d List.mem_cons_self
    have e := ub_digit hd.1 hd.2
    have hp := parse_ub (d :: ds) 0 (by omega) h
    rw [show ((0 : Nat) : Int) = 0 from rfl] at hp
    have hm : Lib.parseMag (ub (d :: ds)) = .ok (bv 0 (d :: ds)).toNat := by
      unfold Lib.parseMag
      rw [if_neg (by simp [ub]), hp, if_pos (by omega)]
    rw [show ub (d :: ds) = UInt8.ofNat (48 + d).toNat :: ub ds from rfl] at hm ⊢
    rw [Lib.atoiAll_plain _ _ (by rw [e]; omega) (by rw [e]; omega), hm]
    generalize bv 0 (d :: ds) = v at *
    show (if 9223372036854775808 ≤ v.toNat then Lib.NumEnd.range else .ok ((v.toNat : Nat) : Int)) = _
    rw [if_neg (by omega), Int.toNat_of_nonneg h0]
theorem ring_parse (p B L x : Int) : p * (L * B + x) = p * x + p * B * L := by grind
theorem parse_loop (m : Bool) (D : List Int) (hD : Lim 10 D) (hn : D.length ≤ 576) (R : TV → List Ob → Prop) (z : Int) (hz : z = if m = true then - bv 0 D else bv 0 D)
    (hR : R (.tup [(true, [.fz (.bool (outS z)), .fz (.sl 1 (ints .u32 (outL z)))]), (false, [.fz (.bool (outE z == 0))])]) []) :
    ∀ (k e : Nat) (ei : Int) (o : List Int), e ≤ k → e ≤ D.length → (ei = e ∨ (e = 0 ∧ -9 ≤ ei ∧ ei ≤ 0)) → o.length + e ≤ D.length → Lim 1000000000 o → val 1000000000 o + 1000000000 ^ o.length * bv 0 (D.take e) = bv 0 D →
      num_Parse_L0 R (tb D) m ei (ints .u32 o)
  | k, e, ei, o, hk, he, hei, hlen, hL, hv => by
    refine num_Parse_l0 ?_
    unfold num_Parse_R0
    simp only [dec_t, dec_f, ints_snoc, ints_len, ints_one]
    refine ⟨fun h => ?_, fun h => ?_⟩
    · have e1 : ei = e := by omega
      subst e1
      have e2 : IntKind.wrap .i64 ((e : Int) - 9) = (e : Int) - 9 := w64 (by omega) (by omega)
      have e3 : (if (0 : Int) > (e : Int) - 9 then 0 else (e : Int) - 9) = ((e - 9 : Nat) : Int) := by split <;> omega
      rw [e2, e3, Int.toNat_natCast, Int.toNat_natCast, tb_extract, tb_size]
      have hLc : Lim 10 ((D.drop (e - 9)).take (e - (e - 9))) := (hD.drop _).take _
      have hlc : ((D.drop (e - 9)).take (e - (e - 9))).length = e - (e - 9) := by rw [List.length_take, List.length_drop]; omega
      have hne : (D.drop (e - 9)).take (e - (e - 9)) ≠ [] := fun h0 => by rw [h0] at hlc; simp at hlc; omega
      have hsplit : D.take e = D.take (e - 9) ++ (D.drop (e - 9)).take (e - (e - 9)) := by
        rw [← List.take_add]; congr 1; omega
      have hb0 := bv_nonneg _ hLc
      have hb1 := bv_lt _ hLc
      have hb2 := pow_mono (B := 10) (by omega) (show ((D.drop (e - 9)).take (e - (e - 9))).length ≤ 9 by omega)
      have e9 : (10 : Int) ^ 9 = 1000000000 := by decide
      have ha := atoi_short hne hLc (by omega)
      have hj : bv 0 (D.take e) = bv 0 (D.take (e - 9)) * 1000000000 + bv 0 ((D.drop (e - 9)).take (e - (e - 9))) := by
        rw [hsplit, bv_join, hlc]
        by_cases h9 : 9 ≤ e
        · rw [show e - (e - 9) = 9 by omega, e9]
        · rw [show e - 9 = 0 by omega, List.take_zero]
          show 0 * _ + _ = 0 * _ + _
          omega
      rw [hj] at hv
      generalize (D.drop (e - 9)).take (e - (e - 9)) = c at *
      have hA := Atoi_fn (tb c) (by rw [tb_size]; omega)
      have hav : atoiV (tb c) = bv 0 c := by
        unfold atoiV
        rw [show (tb c).data.toList = ub c from by simp [tb], ha]
      rw [hav] at hA
      refine ⟨⟨by omega, by omega, by omega⟩, _, _, hA, ?_, ?_⟩
      · simp only [List.length_cons, List.length_nil]; omega
      · rw [wu32 (by omega) (by omega), ints_app]
        match k, hk with
        | 0, hk => omega
        | k + 1, hk =>
          refine parse_loop m D hD hn R z hz hR k (e - 9) ((e : Int) - 9) (o ++ [bv 0 c]) (by omega) (by omega) (by omega) (by simp; omega) (hL.snoc hb0 (by omega)) ?_
          rw [val_snoc, List.length_append, List.length_singleton, Int.pow_succ, ← hv, ring_parse]
          omega
    · have e0 : e = 0 := by omega
      subst e0
      rw [List.take_zero, show bv 0 [] = 0 from rfl, Int.mul_zero, Int.add_zero] at hv
      have hz2 : sv m o = z := by rw [hz, ← hv]; rfl
      have := of_ok m o (by omega) hL
      rw [hz2] at this
      exact ⟨_, _, _, this, hR⟩
def okX (X : List Int) : Bool := decide (X ≠ []) && X.all fun c => decide (48 ≤ c ∧ c ≤ 57)
def vX (X : List Int) : Int := bv 0 (X.map (· - 48))
def ptS (m : Bool) (X : List Int) : Bool := if okX X = true then mkS m (vX X) else false
def ptL (X : List Int) : List Int := if okX X = true then mkL (vX X) else []
def ptB (X : List Int) : Bool := if okX X = true then mkB (vX X) else false
abbrev ptT (m : Bool) (X : List Int) : TV := .tup [(true, [.fz (.bool (ptS m X)), .fz (.sl 1 (ints .u32 (ptL X)))]), (false, [.fz (.bool (ptB X))])]
abbrev ptBad : TV := .tup [(true, [.fz (.bool false), .fz (.sl 1 ([] : List (List FV)))]), (false, [.fz (.bool false)])]
theorem ptT_bad {m : Bool} {X : List Int} (h : okX X = false) : ptT m X = ptBad := by
  unfold ptT ptS ptL ptB; rw [h]; rfl
theorem ptT_large {m : Bool} {X : List Int} (h : mkB (vX X) = false) : ptT m X = ptBad := by
  have h1 : 576 < (digs 10 (vX X).toNat).length := by
    unfold mkB at h
    split at h
    · assumption
    · cases h
  unfold ptT ptS ptL ptB mkS mkL mkB
  rw [if_pos h1, if_pos h1, if_pos h1]
  cases okX X <;> rfl
theorem pt_dig {X : List Int} (h : X.all (fun c => decide (48 ≤ c ∧ c ≤ 57)) = true) : Lim 10 (X.map (· - 48)) ∧ (bytesOf X).data.toList = ub (X.map (· - 48)) := by
  rw [List.all_eq_true] at h
  constructor
  · intro x hx
    obtain ⟨c, hc, rfl⟩ := List.mem_map.1 hx
    have := h c hc
    simp only [decide_eq_true_eq] at this
    omega
  · rw [data_of, ub, List.map_map]
    refine List.map_congr_left fun c hc => ?_
    show UInt8.ofNat c.toNat = UInt8.ofNat (48 + (c - 48)).toNat
    congr 2
    omega
theorem dw_nil (p : UInt8 → Bool) : ∀ l : List UInt8, l.dropWhile p = [] ↔ ∀ x ∈ l, p x = true
  | [] => by simp
  | x :: l => by
    rw [List.dropWhile_cons]
    by_cases h : p x = true
    · rw [if_pos h, dw_nil p l]; simp [h]
    · rw [if_neg h]; simp [h]
theorem trim_nil (p : UInt8 → Bool) (l : List UInt8) : ((l.reverse.dropWhile p).reverse.dropWhile p = []) ↔ l.all p = true := by
  rw [dw_nil, List.all_eq_true]
  constructor
  · intro h
    have h2 : l.reverse.dropWhile p = [] := by
      by_cases hne : l.reverse.dropWhile p = []
      · exact hne
      · have := List.head_dropWhile_not (p := p) (l := l.reverse) hne
        have h3 := h _ (List.mem_reverse.2 (List.head_mem hne))
        rw [this] at h3; cases h3
    rw [dw_nil] at h2
    exact fun x hx => h2 x (by simpa using hx)
  · intro h x hx
    exact h x (by simpa using (List.dropWhile_sublist _).subset (List.mem_reverse.1 hx))
theorem ten_has (c : UInt8) : ([48, 49, 50, 51, 52, 53, 54, 55, 56, 57] : List UInt8).contains c = decide (48 ≤ c.toNat ∧ c.toNat ≤ 57) := by
  rw [Bool.eq_iff_iff]
  simp [← UInt8.toNat_inj]
  omega
theorem all_map {X : List Int} (hX : Bytes X) : (X.map fun n => UInt8.ofNat n.toNat).all (([48, 49, 50, 51, 52, 53, 54, 55, 56, 57] : List UInt8).contains ·) = X.all fun c => decide (48 ≤ c ∧ c ≤ 57) := by
  rw [Bool.eq_iff_iff, List.all_map, List.all_eq_true, List.all_eq_true]
  refine forall_congr' fun x => ⟨fun h hx => ?_, fun h hx => ?_⟩
  all_goals
    have h1 := h hx
    have h2 := hX x hx
    have h3 := u8_back h2.1 h2.2
  · simp only [Function.comp_apply, ten_has, decide_eq_true_eq] at h1 ⊢
    omega
  · simp only [Function.comp_apply, ten_has, decide_eq_true_eq] at h1 ⊢
    omega
theorem trim_test {X : List Int} (hX : Bytes X) : ((ByteArray.toList ⟨(Lib.trimS (bytesOf X).data.toList (ByteArray.mk #[48, 49, 50, 51, 52, 53, 54, 55, 56, 57]).data.toList).toArray⟩) == ByteArray.toList (ByteArray.mk #[])) = X.all fun c => decide (48 ≤ c ∧ c ≤ 57) := by
  rw [ByteArray.toList_eq, ByteArray.toList_eq, ← all_map hX, data_of]
  generalize X.map (fun n => UInt8.ofNat n.toNat) = l
  rw [Bool.eq_iff_iff, ← trim_nil, beq_iff_eq]
  rfl
theorem cutB : ∀ (D : List Int), Lim 10 D → Lib.trimLeftB (ub D) 48 = ub (D.dropWhile (· == 0))
  | [], _ => rfl
  | d :: D, h => by
    have hd := h d List.mem_cons_self
    have e := ub_digit hd.1 hd.2
    have ih := cutB D (fun x hx => h x (List.mem_cons_of_mem _ hx))
    show List.dropWhile _ (UInt8.ofNat (48 + d).toNat :: ub D) = ub (List.dropWhile _ (d :: D))
    rw [List.dropWhile_cons, List.dropWhile_cons]
    by_cases h0 : d = 0
    · subst h0
      exact ih
    · have : (UInt8.ofNat (48 + d).toNat == 48) = false := by
        rw [beq_eq_false_iff_ne, ne_eq, ← UInt8.toNat_inj, e]
        show ¬ 48 + d.toNat = 48
        omega
      rw [this, show (d == 0) = false by simpa using h0]
      rfl
theorem parse_tail (m : Bool) (X : List Int) (hX : Bytes X) (hlen : X.length ≤ 140737488355328) (R : TV → List Ob → Prop) (hR : R (ptT m X) []) :
    ((ByteArray.toList (bytesOf X) == ByteArray.toList (ByteArray.mk #[])) = true → R ptBad []) ∧
    ((ByteArray.toList (bytesOf X) == ByteArray.toList (ByteArray.mk #[])) = false →
      ∃ s9 : ByteArray, Fn Tryd.prog 39 [.one (.fz (.str (bytesOf X))), .one (.fz (.str (ByteArray.mk #[48, 49, 50, 51, 52, 53, 54, 55, 56, 57])))] [] (.one (.fz (.str s9))) [] ∧
        ((Bool.not (ByteArray.toList s9 == ByteArray.toList (ByteArray.mk #[]))) = true → R ptBad []) ∧
        ((Bool.not (ByteArray.toList s9 == ByteArray.toList (ByteArray.mk #[]))) = false →
          ∃ s10 : ByteArray, Fn Tryd.prog 40 [.one (.fz (.str (bytesOf X))), .one (.fz (.str (ByteArray.mk #[48])))] [] (.one (.fz (.str s10))) [] ∧
            (decide ((576 : Int) < ((ByteArray.size s10 : Nat) : Int)) = true → R ptBad []) ∧
            (decide ((576 : Int) < ((ByteArray.size s10 : Nat) : Int)) = false → num_Parse_L0 R s10 m ((ByteArray.size s10 : Nat) : Int) ([] : List (List FV))))) := by
  have e0 : (ByteArray.toList (bytesOf X) == ByteArray.toList (ByteArray.mk #[])) = decide (X = []) := eq_bytes (m := []) hX Bytes.nil
  rw [e0, dec_t, dec_f]
  refine ⟨fun h => ?_, fun hne => ⟨_, Trim_fn (bytesOf X) _ (by rw [size_of]; omega) (by decide) (by decide +kernel), ?_⟩⟩
  · subst h
    rw [ptT_bad rfl] at hR; exact hR
  · rw [trim_test hX, not_t, not_f]
    refine ⟨fun h => ?_, fun h => ⟨_, TrimLeft_fn (bytesOf X) 48 (by decide), ?_⟩⟩
    · rw [ptT_bad (by unfold okX; rw [h, Bool.and_false])] at hR; exact hR
    · obtain ⟨hL, hd⟩ := pt_dig h
      have hok : okX X = true := by unfold okX; rw [h]; simpa using hne
      rw [hd, cutB _ hL]
      have hsz := tb_size ((X.map (· - 48)).dropWhile (· == 0))
      unfold tb at hsz
      have hc := cut_digs hL
      have hv0 := bv_nonneg _ hL
      have hcut := bv_cut (X.map (· - 48))
      rw [hsz, dec_t, dec_f]
      refine ⟨fun hl => ?_, fun hl => ?_⟩
      · have hb : mkB (vX X) = false := by
          unfold mkB vX
          rw [if_pos (by omega)]
        rw [ptT_large hb] at hR; exact hR
      · have hb : mkB (vX X) = true := by
          unfold mkB vX
          rw [if_neg (by omega)]
        have hv0' : 0 ≤ vX X := hv0
        obtain ⟨h1, h2, h3⟩ := (mk_out m (vX X) hv0').1 hb
        refine parse_loop m _ (cut_lim hL) (by omega) R (if m = true then - vX X else vX X) (by rw [hcut]; rfl) ?_ _ _ _ [] (Nat.le_refl _) (Nat.le_refl _) (.inl rfl) (by simp) (Lim.nil _) ?_
        · rw [h1, h2, h3]
          unfold ptT ptS ptL ptB at hR
          rw [if_pos hok, if_pos hok, if_pos hok, hb] at hR
          exact hR
        · rw [List.take_length]
          show 0 + 1000000000 ^ 0 * _ = _
          rw [Int.pow_zero]; omega
def pNeg (T : List Int) : Bool := decide (T.head? = some 45)
def pRest (T : List Int) : List Int := if T.head? = some 45 ∨ T.head? = some 43 then T.tail else T
theorem trimP (T : List Int) (hT : Bytes T) (c : Nat) (hc : c < 256) : (⟨(Lib.trimPrefix (bytesOf T).data.toList [UInt8.ofNat c]).toArray⟩ : ByteArray) = bytesOf (if T.head? = some (c : Int) then T.tail else T) := by
  refine ba_ext ?_
  rw [data_of, data_of]
  unfold Lib.trimPrefix
  cases T with
  | nil => rfl
  | cons x T =>
    have hx := hT x List.mem_cons_self
    have h3 := u8_back hx.1 hx.2
    have hcc : (UInt8.ofNat c).toNat = c := by rw [UInt8.toNat_ofNat']; omega
    have : Lib.hasPrefix ((x :: T).map fun n => UInt8.ofNat n.toNat) [UInt8.ofNat c] = decide (x = (c : Int)) := by
      unfold Lib.hasPrefix
      rw [Bool.eq_iff_iff]
      simp [← UInt8.toNat_inj]
      omega
    rw [this]
    by_cases h : x = (c : Int)
    · simp [h]
    · simp [h]
theorem parse_ok (T : List Int) (hT : Bytes T) (hlen : T.length ≤ 140737488355328) : Fn Tryd.prog 27 [.one (.fz (.str (bytesOf T)))] [] (ptT (pNeg T) (pRest T)) [] := by
  refine num_Parse_fn _ ?_
  unfold num_Parse_H
  have hp : ∀ c : Nat, c < 256 → Bytes (if T.head? = some (c : Int) then T.tail else T) := fun c _ => by
    split
    · exact fun x hx => hT x (List.mem_of_mem_tail hx)
    · exact hT
  have f1 := TrimPrefix_fn (bytesOf T) (ByteArray.mk #[45])
  rw [show (ByteArray.mk #[45]).data.toList = [UInt8.ofNat 45] from rfl, trimP T hT 45 (by omega)] at f1
  refine ⟨_, f1, ?_⟩
  rw [eq_bytes (hp 45 (by omega)) hT]
  by_cases h : T.head? = some 45
  · have hT1 : (if T.head? = some ((45 : Nat) : Int) then T.tail else T) = T.tail := if_pos h
    have hne : ¬ T.tail = T := by
      intro h2
      cases T with
      | nil => cases h
      | cons x T =>
        have := congrArg List.length h2
        simp at this
    rw [hT1, decide_eq_false hne]
    have e1 : pNeg T = true := decide_eq_true h
    have e2 : pRest T = T.tail := if_pos (.inl h)
    rw [e1, e2]
    refine ⟨fun h => (by cases h), fun _ => ?_⟩
    exact parse_tail true T.tail (fun x hx => hT x (List.mem_of_mem_tail hx)) (by rw [List.length_tail]; omega) (fun r' h' => r' = ptT true T.tail ∧ h' = []) ⟨rfl, rfl⟩
  · have hT1 : (if T.head? = some ((45 : Nat) : Int) then T.tail else T) = T := if_neg h
    rw [hT1, decide_eq_true rfl]
    refine ⟨fun _ => ?_, fun h => (by cases h)⟩
    have f2 := TrimPrefix_fn (bytesOf T) (ByteArray.mk #[43])
    rw [show (ByteArray.mk #[43]).data.toList = [UInt8.ofNat 43] from rfl, trimP T hT 43 (by omega)] at f2
    refine ⟨_, f2, ?_⟩
    have e1 : pNeg T = false := decide_eq_false h
    have e2 : pRest T = (if T.head? = some ((43 : Nat) : Int) then T.tail else T) := by
      unfold pRest
      by_cases h2 : T.head? = some 43
      · rw [if_pos (.inr h2)]; exact (if_pos h2).symm
      · rw [if_neg (fun hh => hh.elim h h2)]; exact (if_neg h2).symm
    rw [e1, e2]
    refine parse_tail false _ (hp 43 (by omega)) ?_ (fun r' h' => r' = ptT false (if T.head? = some ((43 : Nat) : Int) then T.tail else T) ∧ h' = []) ⟨rfl, rfl⟩
    split
    · rw [List.length_tail]; omega
    · exact hlen
end Go.Proofs.YtejefchehdifhaaDoor.Ev
end
section
set_option linter.unusedVariables false
set_option linter.unusedSimpArgs false
namespace Go.Proofs.YtejefchehdifhaaDoor.Ev
open Go
theorem byte_at {T : List Int} (hT : Bytes T) {i : Nat} (h : i < T.length) : ∃ c : UInt8, (ByteArray.data (bytesOf T))[i]? = some c ∧ ((c.toNat : Nat) : Int) = rd T i :=
  (ex_byte hT (Q := fun n => n = rd T i)).2 ⟨h, rfl⟩
theorem digs_nine (v n : Nat) (h : (digs 10 v).length ≤ 9 * n) : (digs 1000000000 v).length ≤ n := by
  rw [digs_len (by omega), pow9N] at h
  rw [digs_len (by omega)]
  exact h
end Go.Proofs.YtejefchehdifhaaDoor.Ev
end
section
set_option linter.unusedVariables false
set_option maxRecDepth 100000
namespace Go.Proofs.YtejefchehdifhaaDoor.Ev
open Go
def token_Atom_lv : List Nat → Keep := lvOf []
def token_Atom_H (R : TV → List Ob → Prop) (s : ByteArray) : Prop :=
  (((((ByteArray.toList s) == (ByteArray.toList (ByteArray.mk #[35, 116]))) = true) → (R (TV.tup [(true, [(AV.fz (FV.int .i64 8)), (AV.fz (FV.str (ByteArray.mk #[]))), (AV.fz (FV.bool false)), (AV.fz (FV.sl 1 ([] : List (List FV)))), (AV.fz (FV.sl 6 ([] : List (List FV)))), (AV.fz (FV.int .i64 0))]), (false, [(AV.fz (FV.bool true))])]) [])) ∧ ((((ByteArray.toList s) == (ByteArray.toList (ByteArray.mk #[35, 116]))) = false) → (((((ByteArray.toList s) == (ByteArray.toList (ByteArray.mk #[35, 116, 114, 117, 101]))) = true) → (R (TV.tup [(true, [(AV.fz (FV.int .i64 8)), (AV.fz (FV.str (ByteArray.mk #[]))), (AV.fz (FV.bool false)), (AV.fz (FV.sl 1 ([] : List (List FV)))), (AV.fz (FV.sl 6 ([] : List (List FV)))), (AV.fz (FV.int .i64 0))]), (false, [(AV.fz (FV.bool true))])]) [])) ∧ ((((ByteArray.toList s) == (ByteArray.toList (ByteArray.mk #[35, 116, 114, 117, 101]))) = false) → (((((ByteArray.toList s) == (ByteArray.toList (ByteArray.mk #[35, 102]))) = true) → (R (TV.tup [(true, [(AV.fz (FV.int .i64 9)), (AV.fz (FV.str (ByteArray.mk #[]))), (AV.fz (FV.bool false)), (AV.fz (FV.sl 1 ([] : List (List FV)))), (AV.fz (FV.sl 6 ([] : List (List FV)))), (AV.fz (FV.int .i64 0))]), (false, [(AV.fz (FV.bool true))])]) [])) ∧ ((((ByteArray.toList s) == (ByteArray.toList (ByteArray.mk #[35, 102]))) = false) → (((((ByteArray.toList s) == (ByteArray.toList (ByteArray.mk #[35, 102, 97, 108, 115, 101]))) = true) → (R (TV.tup [(true, [(AV.fz (FV.int .i64 9)), (AV.fz (FV.str (ByteArray.mk #[]))), (AV.fz (FV.bool false)), (AV.fz (FV.sl 1 ([] : List (List FV)))), (AV.fz (FV.sl 6 ([] : List (List FV)))), (AV.fz (FV.int .i64 0))]), (false, [(AV.fz (FV.bool true))])]) [])) ∧ ((((ByteArray.toList s) == (ByteArray.toList (ByteArray.mk #[35, 102, 97, 108, 115, 101]))) = false) → (∃ b12 : Bool, (∃ es2 : List (List FV), (∃ b13 : Bool, ((Fn Tryd.prog 27 [(TV.one (AV.fz (FV.str s)))] [] (TV.tup [(true, [(AV.fz (FV.bool b12)), (AV.fz (FV.sl 1 es2))]), (false, [(AV.fz (FV.bool b13))])]) []) ∧ (((b13 = true) → (R (TV.tup [(true, [(AV.fz (FV.int .i64 7)), (AV.fz (FV.str (ByteArray.mk #[]))), (AV.fz (FV.bool b12)), (AV.fz (FV.sl 1 es2)), (AV.fz (FV.sl 6 ([] : List (List FV)))), (AV.fz (FV.int .i64 0))]), (false, [(AV.fz (FV.bool true))])]) [])) ∧ ((b13 = false) → (∃ es3 : List (List FV), (∃ n2 : Int, (∃ n3 : Int, ((Fn Tryd.prog 28 [(TV.one (AV.fz (FV.sl 1 (List.map (fun b15 => [(FV.int .u8 (((UInt8.toNat b15) : Nat) : Int))]) (Array.toList (ByteArray.data s))))))] [] (TV.tup [(false, [(AV.fz (FV.sl 1 es3))]), (false, [(AV.fz (FV.int .i64 n2))]), (false, [(AV.fz (FV.int .i64 n3))])]) []) ∧ (∃ b16 : Bool, ((Fn Tryd.prog 29 [(TV.one (AV.fz (FV.str s))), (TV.one (AV.fz (FV.str (ByteArray.mk #[43]))))] [] (TV.one (AV.fz (FV.bool b16))) []) ∧ (((b16 = true) → (((((ByteArray.toList s) == (ByteArray.toList (ByteArray.mk #[]))) = true) → (R (TV.tup [(true, [(AV.fz (FV.int .i64 0)), (AV.fz (FV.str (ByteArray.mk #[]))), (AV.fz (FV.bool false)), (AV.fz (FV.sl 1 ([] : List (List FV)))), (AV.fz (FV.sl 6 ([] : List (List FV)))), (AV.fz (FV.int .i64 0))]), (false, [(AV.fz (FV.bool false))])]) [])) ∧ ((((ByteArray.toList s) == (ByteArray.toList (ByteArray.mk #[]))) = false) → (((((ByteArray.toList s) == (ByteArray.toList (ByteArray.mk #[46]))) = true) → (R (TV.tup [(true, [(AV.fz (FV.int .i64 0)), (AV.fz (FV.str (ByteArray.mk #[]))), (AV.fz (FV.bool false)), (AV.fz (FV.sl 1 ([] : List (List FV)))), (AV.fz (FV.sl 6 ([] : List (List FV)))), (AV.fz (FV.int .i64 0))]), (false, [(AV.fz (FV.bool false))])]) [])) ∧ ((((ByteArray.toList s) == (ByteArray.toList (ByteArray.mk #[46]))) = false) → ((((decide ((64 : Int) < (((ByteArray.size s) : Nat) : Int))) = true) → (R (TV.tup [(true, [(AV.fz (FV.int .i64 0)), (AV.fz (FV.str (ByteArray.mk #[]))), (AV.fz (FV.bool false)), (AV.fz (FV.sl 1 ([] : List (List FV)))), (AV.fz (FV.sl 6 ([] : List (List FV)))), (AV.fz (FV.int .i64 0))]), (false, [(AV.fz (FV.bool false))])]) [])) ∧ (((decide ((64 : Int) < (((ByteArray.size s) : Nat) : Int))) = false) → ((((n3 != 0) = true) → (R (TV.tup [(true, [(AV.fz (FV.int .i64 0)), (AV.fz (FV.str (ByteArray.mk #[]))), (AV.fz (FV.bool false)), (AV.fz (FV.sl 1 ([] : List (List FV)))), (AV.fz (FV.sl 6 ([] : List (List FV)))), (AV.fz (FV.int .i64 0))]), (false, [(AV.fz (FV.bool false))])]) [])) ∧ (((n3 != 0) = false) → (∃ b17 : Bool, ((Fn Tryd.prog 30 [(TV.one (AV.fz (FV.sl 1 es3))), (TV.one (AV.fz (FV.fn 31 [])))] [] (TV.one (AV.fz (FV.bool b17))) []) ∧ (((b17 = true) → (R (TV.tup [(true, [(AV.fz (FV.int .i64 0)), (AV.fz (FV.str (ByteArray.mk #[]))), (AV.fz (FV.bool false)), (AV.fz (FV.sl 1 ([] : List (List FV)))), (AV.fz (FV.sl 6 ([] : List (List FV)))), (AV.fz (FV.int .i64 0))]), (false, [(AV.fz (FV.bool false))])]) [])) ∧ ((b17 = false) → (((0 : Int) ≤ 0) ∧ (∃ c2 : UInt8, ((((ByteArray.data s))[(Int.toNat 0)]? = (some c2)) ∧ (((((((UInt8.toNat c2) : Nat) : Int) == 35) = true) → (R (TV.tup [(true, [(AV.fz (FV.int .i64 0)), (AV.fz (FV.str (ByteArray.mk #[]))), (AV.fz (FV.bool false)), (AV.fz (FV.sl 1 ([] : List (List FV)))), (AV.fz (FV.sl 6 ([] : List (List FV)))), (AV.fz (FV.int .i64 0))]), (false, [(AV.fz (FV.bool false))])]) [])) ∧ ((((((UInt8.toNat c2) : Nat) : Int) == 35) = false) → (∃ b18 : Bool, ((Fn Tryd.prog 32 [(TV.one (AV.fz (FV.str s))), (TV.one (AV.fz (FV.int .i64 0)))] [] (TV.one (AV.fz (FV.bool b18))) []) ∧ (((b18 = true) → (R (TV.tup [(true, [(AV.fz (FV.int .i64 0)), (AV.fz (FV.str (ByteArray.mk #[]))), (AV.fz (FV.bool false)), (AV.fz (FV.sl 1 ([] : List (List FV)))), (AV.fz (FV.sl 6 ([] : List (List FV)))), (AV.fz (FV.int .i64 0))]), (false, [(AV.fz (FV.bool false))])]) [])) ∧ ((b18 = false) → (∃ b19 : Bool, ((Fn Tryd.prog 32 [(TV.one (AV.fz (FV.str s))), (TV.one (AV.fz (FV.int .i64 1)))] [] (TV.one (AV.fz (FV.bool b19))) []) ∧ (((b19 = true) → (R (TV.tup [(true, [(AV.fz (FV.int .i64 0)), (AV.fz (FV.str (ByteArray.mk #[]))), (AV.fz (FV.bool false)), (AV.fz (FV.sl 1 ([] : List (List FV)))), (AV.fz (FV.sl 6 ([] : List (List FV)))), (AV.fz (FV.int .i64 0))]), (false, [(AV.fz (FV.bool false))])]) [])) ∧ ((b19 = false) → (R (TV.tup [(true, [(AV.fz (FV.int .i64 4)), (AV.fz (FV.str s)), (AV.fz (FV.bool false)), (AV.fz (FV.sl 1 ([] : List (List FV)))), (AV.fz (FV.sl 6 ([] : List (List FV)))), (AV.fz (FV.int .i64 0))]), (false, [(AV.fz (FV.bool true))])]) []))))))))))))))))))))))))))) ∧ ((b16 = false) → (∃ b20 : Bool, ((Fn Tryd.prog 29 [(TV.one (AV.fz (FV.str s))), (TV.one (AV.fz (FV.str (ByteArray.mk #[45]))))] [] (TV.one (AV.fz (FV.bool b20))) []) ∧ (((((ByteArray.toList s) == (ByteArray.toList (ByteArray.mk #[]))) = true) → (R (TV.tup [(true, [(AV.fz (FV.int .i64 0)), (AV.fz (FV.str (ByteArray.mk #[]))), (AV.fz (FV.bool false)), (AV.fz (FV.sl 1 ([] : List (List FV)))), (AV.fz (FV.sl 6 ([] : List (List FV)))), (AV.fz (FV.int .i64 0))]), (false, [(AV.fz (FV.bool false))])]) [])) ∧ ((((ByteArray.toList s) == (ByteArray.toList (ByteArray.mk #[]))) = false) → (((((ByteArray.toList s) == (ByteArray.toList (ByteArray.mk #[46]))) = true) → (R (TV.tup [(true, [(AV.fz (FV.int .i64 0)), (AV.fz (FV.str (ByteArray.mk #[]))), (AV.fz (FV.bool false)), (AV.fz (FV.sl 1 ([] : List (List FV)))), (AV.fz (FV.sl 6 ([] : List (List FV)))), (AV.fz (FV.int .i64 0))]), (false, [(AV.fz (FV.bool false))])]) [])) ∧ ((((ByteArray.toList s) == (ByteArray.toList (ByteArray.mk #[46]))) = false) → ((((decide ((64 : Int) < (((ByteArray.size s) : Nat) : Int))) = true) → (R (TV.tup [(true, [(AV.fz (FV.int .i64 0)), (AV.fz (FV.str (ByteArray.mk #[]))), (AV.fz (FV.bool false)), (AV.fz (FV.sl 1 ([] : List (List FV)))), (AV.fz (FV.sl 6 ([] : List (List FV)))), (AV.fz (FV.int .i64 0))]), (false, [(AV.fz (FV.bool false))])]) [])) ∧ (((decide ((64 : Int) < (((ByteArray.size s) : Nat) : Int))) = false) → ((((n3 != 0) = true) → (R (TV.tup [(true, [(AV.fz (FV.int .i64 0)), (AV.fz (FV.str (ByteArray.mk #[]))), (AV.fz (FV.bool false)), (AV.fz (FV.sl 1 ([] : List (List FV)))), (AV.fz (FV.sl 6 ([] : List (List FV)))), (AV.fz (FV.int .i64 0))]), (false, [(AV.fz (FV.bool false))])]) [])) ∧ (((n3 != 0) = false) → (∃ b21 : Bool, ((Fn Tryd.prog 30 [(TV.one (AV.fz (FV.sl 1 es3))), (TV.one (AV.fz (FV.fn 31 [])))] [] (TV.one (AV.fz (FV.bool b21))) []) ∧ (((b21 = true) → (R (TV.tup [(true, [(AV.fz (FV.int .i64 0)), (AV.fz (FV.str (ByteArray.mk #[]))), (AV.fz (FV.bool false)), (AV.fz (FV.sl 1 ([] : List (List FV)))), (AV.fz (FV.sl 6 ([] : List (List FV)))), (AV.fz (FV.int .i64 0))]), (false, [(AV.fz (FV.bool false))])]) [])) ∧ ((b21 = false) → (((0 : Int) ≤ 0) ∧ (∃ c3 : UInt8, ((((ByteArray.data s))[(Int.toNat 0)]? = (some c3)) ∧ (((((((UInt8.toNat c3) : Nat) : Int) == 35) = true) → (R (TV.tup [(true, [(AV.fz (FV.int .i64 0)), (AV.fz (FV.str (ByteArray.mk #[]))), (AV.fz (FV.bool false)), (AV.fz (FV.sl 1 ([] : List (List FV)))), (AV.fz (FV.sl 6 ([] : List (List FV)))), (AV.fz (FV.int .i64 0))]), (false, [(AV.fz (FV.bool false))])]) [])) ∧ ((((((UInt8.toNat c3) : Nat) : Int) == 35) = false) → (∃ b22 : Bool, ((Fn Tryd.prog 32 [(TV.one (AV.fz (FV.str s))), (TV.one (AV.fz (FV.int .i64 0)))] [] (TV.one (AV.fz (FV.bool b22))) []) ∧ (((b22 = true) → (R (TV.tup [(true, [(AV.fz (FV.int .i64 0)), (AV.fz (FV.str (ByteArray.mk #[]))), (AV.fz (FV.bool false)), (AV.fz (FV.sl 1 ([] : List (List FV)))), (AV.fz (FV.sl 6 ([] : List (List FV)))), (AV.fz (FV.int .i64 0))]), (false, [(AV.fz (FV.bool false))])]) [])) ∧ ((b22 = false) → (((b20 = true) → (∃ b23 : Bool, ((Fn Tryd.prog 32 [(TV.one (AV.fz (FV.str s))), (TV.one (AV.fz (FV.int .i64 1)))] [] (TV.one (AV.fz (FV.bool b23))) []) ∧ (((b23 = true) → (R (TV.tup [(true, [(AV.fz (FV.int .i64 0)), (AV.fz (FV.str (ByteArray.mk #[]))), (AV.fz (FV.bool false)), (AV.fz (FV.sl 1 ([] : List (List FV)))), (AV.fz (FV.sl 6 ([] : List (List FV)))), (AV.fz (FV.int .i64 0))]), (false, [(AV.fz (FV.bool false))])]) [])) ∧ ((b23 = false) → (R (TV.tup [(true, [(AV.fz (FV.int .i64 4)), (AV.fz (FV.str s)), (AV.fz (FV.bool false)), (AV.fz (FV.sl 1 ([] : List (List FV)))), (AV.fz (FV.sl 6 ([] : List (List FV)))), (AV.fz (FV.int .i64 0))]), (false, [(AV.fz (FV.bool true))])]) [])))))) ∧ ((b20 = false) → (R (TV.tup [(true, [(AV.fz (FV.int .i64 4)), (AV.fz (FV.str s)), (AV.fz (FV.bool false)), (AV.fz (FV.sl 1 ([] : List (List FV)))), (AV.fz (FV.sl 6 ([] : List (List FV)))), (AV.fz (FV.int .i64 0))]), (false, [(AV.fz (FV.bool true))])]) []))))))))))))))))))))))))))))))))))))))))))))))))
theorem token_Atom_fn (s : ByteArray) {r : TV} {h : List Ob} (H : token_Atom_H (fun r' h' => r' = r ∧ h' = h) s) : Fn Tryd.prog 16 [(TV.one (AV.fz (FV.str s)))] [] r h :=
  Fn.by_tr (M := (modeOf [] [])) (lv := token_Atom_lv) (own := none) (F := Tryd.f16) (by kernel_rfl) (by kernel_rfl) (by first | decide | simp) (fun _ _ h => h) (by kernel_rfl) H
def token_digit_lv : List Nat → Keep := lvOf []
def token_digit_H (R : TV → List Ob → Prop) (s : ByteArray) (at_ : Int) : Prop :=
  ((((decide (at_ < (((ByteArray.size s) : Nat) : Int))) = true) → (((0 : Int) ≤ at_) ∧ (∃ c2 : UInt8, ((((ByteArray.data s))[(Int.toNat at_)]? = (some c2)) ∧ ((((decide ((48 : Int) ≤ (((UInt8.toNat c2) : Nat) : Int))) = true) → (((0 : Int) ≤ at_) ∧ (∃ c3 : UInt8, ((((ByteArray.data s))[(Int.toNat at_)]? = (some c3)) ∧ (R (TV.one (AV.fz (FV.bool (decide ((((UInt8.toNat c3) : Nat) : Int) ≤ 57))))) []))))) ∧ (((decide ((48 : Int) ≤ (((UInt8.toNat c2) : Nat) : Int))) = false) → (R (TV.one (AV.fz (FV.bool false))) []))))))) ∧ (((decide (at_ < (((ByteArray.size s) : Nat) : Int))) = false) → (R (TV.one (AV.fz (FV.bool false))) [])))
theorem token_digit_fn (s : ByteArray) (at_ : Int) {r : TV} {h : List Ob} (H : token_digit_H (fun r' h' => r' = r ∧ h' = h) s at_) : Fn Tryd.prog 32 [(TV.one (AV.fz (FV.str s))), (TV.one (AV.fz (FV.int .i64 at_)))] [] r h :=
  Fn.by_tr (M := (modeOf [] [])) (lv := token_digit_lv) (own := none) (F := Tryd.f32) (by kernel_rfl) (by kernel_rfl) (by first | decide | simp) (fun _ _ h => h) (by kernel_rfl) H
def utf_Decode_lv : List Nat → Keep := lvOf [([0, 0, 1, 1], ⟨13, 0, [], false, false⟩)]
def utf_Decode_S0 (b : List (List FV)) (at_ : Int) (o : List (List FV)) : St := (St.mk [(TV.one (AV.fz (FV.sl 1 b))), TV.und, (TV.one (AV.ofl 1 0)), (TV.one (AV.fz (FV.int .i64 at_))), TV.und, TV.und, TV.und, TV.und, TV.und, TV.und, TV.und, TV.und, TV.und, TV.und, TV.und, TV.und, TV.und, TV.und, TV.und, TV.und, TV.und, TV.und, TV.und, TV.und, TV.und, TV.und, TV.und, TV.und, TV.und, TV.und, TV.und, TV.und, TV.und, TV.und, TV.und, TV.und, TV.und] [(Ob.f 0 1 o)])
def utf_Decode_L0 (R : TV → List Ob → Prop) (b : List (List FV)) (at_ : Int) (o : List (List FV)) : Prop := LoopAt Tryd.prog (modeOf [] []) utf_Decode_lv Tryd.f28 none R [1, 1, 0, 0] (utf_Decode_S0 b at_ o)
def utf_Decode_R0 (R : TV → List Ob → Prop) (b : List (List FV)) (at_ : Int) (o : List (List FV)) : Prop :=
  ((((decide (at_ < (((List.length b) : Nat) : Int))) = true) → ((((0 : Int) ≤ at_) ∧ (at_ ≤ (((List.length b) : Nat) : Int))) ∧ (∃ n4 : Int, (∃ n5 : Int, ((Fn Tryd.prog 43 [(TV.one (AV.fz (FV.sl 1 (List.drop (Int.toNat at_) b))))] [] (TV.tup [(false, [(AV.fz (FV.int .i32 n4))]), (false, [(AV.fz (FV.int .i64 n5))])]) []) ∧ ((((n4 == 65533) = true) → ((((decide (n5 < 2)) = true) → (R (TV.tup [(false, [(AV.fz (FV.sl 1 ([] : List (List FV))))]), (false, [(AV.fz (FV.int .i64 at_))]), (false, [(AV.fz (FV.int .i64 4))])]) [])) ∧ (((decide (n5 < 2)) = false) → (((((List.length o) + (List.length [[(FV.int .i64 (IntKind.wrap .i64 n4))]])) * 8) ≤ 220000000000000) ∧ (utf_Decode_L0 R b (IntKind.wrap .i64 (at_ + n5)) (o ++ [[(FV.int .i64 (IntKind.wrap .i64 n4))]])))))) ∧ (((n4 == 65533) = false) → (((((List.length o) + (List.length [[(FV.int .i64 (IntKind.wrap .i64 n4))]])) * 8) ≤ 220000000000000) ∧ (utf_Decode_L0 R b (IntKind.wrap .i64 (at_ + n5)) (o ++ [[(FV.int .i64 (IntKind.wrap .i64 n4))]])))))))))) ∧ (((decide (at_ < (((List.length b) : Nat) : Int))) = false) → (R (TV.tup [(false, [(AV.fz (FV.sl 1 o))]), (false, [(AV.fz (FV.int .i64 0))]), (false, [(AV.fz (FV.int .i64 0))])]) [])))
theorem utf_Decode_l0 {R : TV → List Ob → Prop} {b : List (List FV)} {at_ : Int} {o : List (List FV)} (h : utf_Decode_R0 R b at_ o) : utf_Decode_L0 R b at_ o :=
  LoopAt.by_tr (by kernel_rfl) (by kernel_rfl) h
def utf_Decode_H (R : TV → List Ob → Prop) (b : List (List FV)) : Prop :=
  ((((decide ((65536 : Int) < (((List.length b) : Nat) : Int))) = true) → (R (TV.tup [(false, [(AV.fz (FV.sl 1 ([] : List (List FV))))]), (false, [(AV.fz (FV.int .i64 0))]), (false, [(AV.fz (FV.int .i64 6))])]) [])) ∧ (((decide ((65536 : Int) < (((List.length b) : Nat) : Int))) = false) → (utf_Decode_L0 R b 0 ([] : List (List FV)))))
theorem utf_Decode_fn (b : List (List FV)) {r : TV} {h : List Ob} (H : utf_Decode_H (fun r' h' => r' = r ∧ h' = h) b) : Fn Tryd.prog 28 [(TV.one (AV.fz (FV.sl 1 b)))] [] r h :=
  Fn.by_tr (M := (modeOf [] [])) (lv := utf_Decode_lv) (own := none) (F := Tryd.f28) (by kernel_rfl) (by kernel_rfl) (by first | decide | simp) (fun _ _ h => h) (by kernel_rfl) H
def utf_Ends_lv : List Nat → Keep := lvOf []
def utf_Ends_H (R : TV → List Ob → Prop) (c : Int) : Prop :=
  (∃ b1 : Bool, ((Fn Tryd.prog 35 [(TV.one (AV.fz (FV.int .i64 c)))] [] (TV.one (AV.fz (FV.bool b1))) []) ∧ (((b1 = true) → (R (TV.one (AV.fz (FV.bool true))) [])) ∧ ((b1 = false) → ((((decide ((0 : Int) < c)) = true) → ((((decide (c < 128)) = true) → (∃ n1 : Int, ((Fn Tryd.prog 45 [(TV.one (AV.fz (FV.str (ByteArray.mk #[40, 41, 59, 34, 39, 96, 44])))), (TV.one (AV.fz (FV.int .u8 (IntKind.wrap .u8 c))))] [] (TV.one (AV.fz (FV.int .i64 n1))) []) ∧ (R (TV.one (AV.fz (FV.bool (decide ((0 : Int) ≤ n1))))) [])))) ∧ (((decide (c < 128)) = false) → (R (TV.one (AV.fz (FV.bool false))) [])))) ∧ (((decide ((0 : Int) < c)) = false) → (R (TV.one (AV.fz (FV.bool false))) [])))))))
theorem utf_Ends_fn (c : Int) {r : TV} {h : List Ob} (H : utf_Ends_H (fun r' h' => r' = r ∧ h' = h) c) : Fn Tryd.prog 31 [(TV.one (AV.fz (FV.int .i64 c)))] [] r h :=
  Fn.by_tr (M := (modeOf [] [])) (lv := utf_Ends_lv) (own := none) (F := Tryd.f31) (by kernel_rfl) (by kernel_rfl) (by first | decide | simp) (fun _ _ h => h) (by kernel_rfl) H
def utf_Blank_lv : List Nat → Keep := lvOf []
def utf_Blank_H (R : TV → List Ob → Prop) (c : Int) : Prop :=
  ((((c == 9) = true) → (R (TV.one (AV.fz (FV.bool true))) [])) ∧ (((c == 9) = false) → ((((c == 10) = true) → (R (TV.one (AV.fz (FV.bool true))) [])) ∧ (((c == 10) = false) → ((((c == 13) = true) → (R (TV.one (AV.fz (FV.bool true))) [])) ∧ (((c == 13) = false) → (R (TV.one (AV.fz (FV.bool (c == 32)))) [])))))))
theorem utf_Blank_fn (c : Int) {r : TV} {h : List Ob} (H : utf_Blank_H (fun r' h' => r' = r ∧ h' = h) c) : Fn Tryd.prog 35 [(TV.one (AV.fz (FV.int .i64 c)))] [] r h :=
  Fn.by_tr (M := (modeOf [] [])) (lv := utf_Blank_lv) (own := none) (F := Tryd.f35) (by kernel_rfl) (by kernel_rfl) (by first | decide | simp) (fun _ _ h => h) (by kernel_rfl) H
end Go.Proofs.YtejefchehdifhaaDoor.Ev
end
section
set_option linter.unusedVariables false
set_option maxRecDepth 100000
namespace Go.Proofs.YtejefchehdifhaaDoor.Ev
open Go
def ref02_one_lv : List Nat → Keep := lvOf [([0, 1, 0, 1, 1, 1, 1, 1], ⟨451, 0, [], false, false⟩)]
def ref02_one_S0 (b : List (List FV)) (at_ : Int) (c : Int) (n2 : Int) (i : Int) : St := (St.mk [(TV.one (AV.fz (FV.sl 1 b))), (TV.one (AV.fz (FV.int .i64 at_))), TV.und, TV.und, TV.und, TV.und, (TV.one (AV.fz (FV.int .i64 c))), (TV.one (AV.fz (FV.int .i64 n2))), (TV.one (AV.fz (FV.int .i64 i))), TV.und, TV.und, TV.und, TV.und, TV.und, TV.und, TV.und, TV.und, TV.und, TV.und, TV.und, TV.und, TV.und, TV.und, TV.und, TV.und, TV.und, TV.und, TV.und, TV.und, TV.und, TV.und, TV.und, TV.und, TV.und, TV.und, TV.und, TV.und, TV.und, TV.und, TV.und, TV.und, TV.und, TV.und, TV.und, TV.und, TV.und, TV.und, TV.und, TV.und, TV.und, TV.und, TV.und, TV.und, TV.und, TV.und, TV.und, TV.und, TV.und, TV.und, TV.und, TV.und, TV.und, TV.und, TV.und, TV.und, TV.und, TV.und, TV.und, TV.und, TV.und, TV.und, TV.und, TV.und, TV.und, TV.und, TV.und, TV.und, TV.und, TV.und, TV.und, TV.und, TV.und, TV.und, TV.und, TV.und, TV.und] [])
def ref02_one_L0 (R : TV → List Ob → Prop) (b : List (List FV)) (at_ : Int) (c : Int) (n2 : Int) (i : Int) : Prop := LoopAt Tryd.prog (modeOf [] []) ref02_one_lv Tryd.f25 none R [1, 1, 1, 1, 1, 0, 1, 0] (ref02_one_S0 b at_ c n2 i)
def ref02_one_R0 (R : TV → List Ob → Prop) (b : List (List FV)) (at_ : Int) (c : Int) (n2 : Int) (i : Int) : Prop :=
  ((((decide (i < n2)) = true) → (((0 : Int) ≤ (IntKind.wrap .i64 (at_ + i))) ∧ (∃ n5 : Int, (((b)[(Int.toNat (IntKind.wrap .i64 (at_ + i)))]? = (some [(FV.int .u8 n5)])) ∧ ((((decide ((IntKind.wrap .i64 n5) < 128)) = true) → (R (TV.tup [(false, [(AV.fz (FV.int .i64 0))]), (false, [(AV.fz (FV.int .i64 0))])]) [])) ∧ (((decide ((IntKind.wrap .i64 n5) < 128)) = false) → ((((decide ((192 : Int) ≤ (IntKind.wrap .i64 n5))) = true) → (R (TV.tup [(false, [(AV.fz (FV.int .i64 0))]), (false, [(AV.fz (FV.int .i64 0))])]) [])) ∧ (((decide ((192 : Int) ≤ (IntKind.wrap .i64 n5))) = false) → (ref02_one_L0 R b at_ (IntKind.wrap .i64 ((IntKind.wrap .i64 ((IntKind.wrap .i64 (c * 64)) + (IntKind.wrap .i64 n5))) - 128)) n2 (IntKind.wrap .i64 (i + 1))))))))))) ∧ (((decide (i < n2)) = false) → (∃ b4 : Bool, ((Fn Tryd.prog 13 [(TV.one (AV.fz (FV.int .i64 c)))] [] (TV.one (AV.fz (FV.bool b4))) []) ∧ ((((Bool.not b4) = true) → (R (TV.tup [(false, [(AV.fz (FV.int .i64 0))]), (false, [(AV.fz (FV.int .i64 0))])]) [])) ∧ (((Bool.not b4) = false) → (∃ es3 : List (List FV), ((Fn Tryd.prog 15 [(TV.one (AV.fz (FV.int .i64 c)))] [] (TV.one (AV.fz (FV.sl 1 es3))) []) ∧ (((((((List.length es3) : Nat) : Int) != n2) = true) → (R (TV.tup [(false, [(AV.fz (FV.int .i64 0))]), (false, [(AV.fz (FV.int .i64 0))])]) [])) ∧ ((((((List.length es3) : Nat) : Int) != n2) = false) → (R (TV.tup [(false, [(AV.fz (FV.int .i64 c))]), (false, [(AV.fz (FV.int .i64 n2))])]) [])))))))))))
theorem ref02_one_l0 {R : TV → List Ob → Prop} {b : List (List FV)} {at_ : Int} {c : Int} {n2 : Int} {i : Int} (h : ref02_one_R0 R b at_ c n2 i) : ref02_one_L0 R b at_ c n2 i :=
  LoopAt.by_tr (by kernel_rfl) (by kernel_rfl) h
def ref02_one_H (R : TV → List Ob → Prop) (b : List (List FV)) (at_ : Int) : Prop :=
  (((0 : Int) ≤ at_) ∧ (∃ n5 : Int, (((b)[(Int.toNat at_)]? = (some [(FV.int .u8 n5)])) ∧ ((((decide ((240 : Int) ≤ (IntKind.wrap .i64 n5))) = true) → ((((decide ((IntKind.wrap .i64 n5) < 248)) = true) → ((((decide ((((List.length b) : Nat) : Int) < (IntKind.wrap .i64 (at_ + 4)))) = true) → (R (TV.tup [(false, [(AV.fz (FV.int .i64 0))]), (false, [(AV.fz (FV.int .i64 0))])]) [])) ∧ (((decide ((((List.length b) : Nat) : Int) < (IntKind.wrap .i64 (at_ + 4)))) = false) → (ref02_one_L0 R b at_ (IntKind.wrap .i64 ((IntKind.wrap .i64 n5) - 240)) 4 1)))) ∧ (((decide ((IntKind.wrap .i64 n5) < 248)) = false) → ((((decide ((224 : Int) ≤ (IntKind.wrap .i64 n5))) = true) → ((((decide ((IntKind.wrap .i64 n5) < 240)) = true) → ((((decide ((((List.length b) : Nat) : Int) < (IntKind.wrap .i64 (at_ + 3)))) = true) → (R (TV.tup [(false, [(AV.fz (FV.int .i64 0))]), (false, [(AV.fz (FV.int .i64 0))])]) [])) ∧ (((decide ((((List.length b) : Nat) : Int) < (IntKind.wrap .i64 (at_ + 3)))) = false) → (ref02_one_L0 R b at_ (IntKind.wrap .i64 ((IntKind.wrap .i64 n5) - 224)) 3 1)))) ∧ (((decide ((IntKind.wrap .i64 n5) < 240)) = false) → ((((decide ((192 : Int) ≤ (IntKind.wrap .i64 n5))) = true) → ((((decide ((IntKind.wrap .i64 n5) < 224)) = true) → ((((decide ((((List.length b) : Nat) : Int) < (IntKind.wrap .i64 (at_ + 2)))) = true) → (R (TV.tup [(false, [(AV.fz (FV.int .i64 0))]), (false, [(AV.fz (FV.int .i64 0))])]) [])) ∧ (((decide ((((List.length b) : Nat) : Int) < (IntKind.wrap .i64 (at_ + 2)))) = false) → (ref02_one_L0 R b at_ (IntKind.wrap .i64 ((IntKind.wrap .i64 n5) - 192)) 2 1)))) ∧ (((decide ((IntKind.wrap .i64 n5) < 224)) = false) → ((((decide ((128 : Int) ≤ (IntKind.wrap .i64 n5))) = true) → (R (TV.tup [(false, [(AV.fz (FV.int .i64 0))]), (false, [(AV.fz (FV.int .i64 0))])]) [])) ∧ (((decide ((128 : Int) ≤ (IntKind.wrap .i64 n5))) = false) → ((((decide ((((List.length b) : Nat) : Int) < (IntKind.wrap .i64 (at_ + 1)))) = true) → (R (TV.tup [(false, [(AV.fz (FV.int .i64 0))]), (false, [(AV.fz (FV.int .i64 0))])]) [])) ∧ (((decide ((((List.length b) : Nat) : Int) < (IntKind.wrap .i64 (at_ + 1)))) = false) → (ref02_one_L0 R b at_ (IntKind.wrap .i64 n5) 1 1)))))))) ∧ (((decide ((192 : Int) ≤ (IntKind.wrap .i64 n5))) = false) → ((((decide ((128 : Int) ≤ (IntKind.wrap .i64 n5))) = true) → (R (TV.tup [(false, [(AV.fz (FV.int .i64 0))]), (false, [(AV.fz (FV.int .i64 0))])]) [])) ∧ (((decide ((128 : Int) ≤ (IntKind.wrap .i64 n5))) = false) → ((((decide ((((List.length b) : Nat) : Int) < (IntKind.wrap .i64 (at_ + 1)))) = true) → (R (TV.tup [(false, [(AV.fz (FV.int .i64 0))]), (false, [(AV.fz (FV.int .i64 0))])]) [])) ∧ (((decide ((((List.length b) : Nat) : Int) < (IntKind.wrap .i64 (at_ + 1)))) = false) → (ref02_one_L0 R b at_ (IntKind.wrap .i64 n5) 1 1)))))))))) ∧ (((decide ((224 : Int) ≤ (IntKind.wrap .i64 n5))) = false) → ((((decide ((192 : Int) ≤ (IntKind.wrap .i64 n5))) = true) → ((((decide ((IntKind.wrap .i64 n5) < 224)) = true) → ((((decide ((((List.length b) : Nat) : Int) < (IntKind.wrap .i64 (at_ + 2)))) = true) → (R (TV.tup [(false, [(AV.fz (FV.int .i64 0))]), (false, [(AV.fz (FV.int .i64 0))])]) [])) ∧ (((decide ((((List.length b) : Nat) : Int) < (IntKind.wrap .i64 (at_ + 2)))) = false) → (ref02_one_L0 R b at_ (IntKind.wrap .i64 ((IntKind.wrap .i64 n5) - 192)) 2 1)))) ∧ (((decide ((IntKind.wrap .i64 n5) < 224)) = false) → ((((decide ((128 : Int) ≤ (IntKind.wrap .i64 n5))) = true) → (R (TV.tup [(false, [(AV.fz (FV.int .i64 0))]), (false, [(AV.fz (FV.int .i64 0))])]) [])) ∧ (((decide ((128 : Int) ≤ (IntKind.wrap .i64 n5))) = false) → ((((decide ((((List.length b) : Nat) : Int) < (IntKind.wrap .i64 (at_ + 1)))) = true) → (R (TV.tup [(false, [(AV.fz (FV.int .i64 0))]), (false, [(AV.fz (FV.int .i64 0))])]) [])) ∧ (((decide ((((List.length b) : Nat) : Int) < (IntKind.wrap .i64 (at_ + 1)))) = false) → (ref02_one_L0 R b at_ (IntKind.wrap .i64 n5) 1 1)))))))) ∧ (((decide ((192 : Int) ≤ (IntKind.wrap .i64 n5))) = false) → ((((decide ((128 : Int) ≤ (IntKind.wrap .i64 n5))) = true) → (R (TV.tup [(false, [(AV.fz (FV.int .i64 0))]), (false, [(AV.fz (FV.int .i64 0))])]) [])) ∧ (((decide ((128 : Int) ≤ (IntKind.wrap .i64 n5))) = false) → ((((decide ((((List.length b) : Nat) : Int) < (IntKind.wrap .i64 (at_ + 1)))) = true) → (R (TV.tup [(false, [(AV.fz (FV.int .i64 0))]), (false, [(AV.fz (FV.int .i64 0))])]) [])) ∧ (((decide ((((List.length b) : Nat) : Int) < (IntKind.wrap .i64 (at_ + 1)))) = false) → (ref02_one_L0 R b at_ (IntKind.wrap .i64 n5) 1 1)))))))))))) ∧ (((decide ((240 : Int) ≤ (IntKind.wrap .i64 n5))) = false) → ((((decide ((224 : Int) ≤ (IntKind.wrap .i64 n5))) = true) → ((((decide ((IntKind.wrap .i64 n5) < 240)) = true) → ((((decide ((((List.length b) : Nat) : Int) < (IntKind.wrap .i64 (at_ + 3)))) = true) → (R (TV.tup [(false, [(AV.fz (FV.int .i64 0))]), (false, [(AV.fz (FV.int .i64 0))])]) [])) ∧ (((decide ((((List.length b) : Nat) : Int) < (IntKind.wrap .i64 (at_ + 3)))) = false) → (ref02_one_L0 R b at_ (IntKind.wrap .i64 ((IntKind.wrap .i64 n5) - 224)) 3 1)))) ∧ (((decide ((IntKind.wrap .i64 n5) < 240)) = false) → ((((decide ((192 : Int) ≤ (IntKind.wrap .i64 n5))) = true) → ((((decide ((IntKind.wrap .i64 n5) < 224)) = true) → ((((decide ((((List.length b) : Nat) : Int) < (IntKind.wrap .i64 (at_ + 2)))) = true) → (R (TV.tup [(false, [(AV.fz (FV.int .i64 0))]), (false, [(AV.fz (FV.int .i64 0))])]) [])) ∧ (((decide ((((List.length b) : Nat) : Int) < (IntKind.wrap .i64 (at_ + 2)))) = false) → (ref02_one_L0 R b at_ (IntKind.wrap .i64 ((IntKind.wrap .i64 n5) - 192)) 2 1)))) ∧ (((decide ((IntKind.wrap .i64 n5) < 224)) = false) → ((((decide ((128 : Int) ≤ (IntKind.wrap .i64 n5))) = true) → (R (TV.tup [(false, [(AV.fz (FV.int .i64 0))]), (false, [(AV.fz (FV.int .i64 0))])]) [])) ∧ (((decide ((128 : Int) ≤ (IntKind.wrap .i64 n5))) = false) → ((((decide ((((List.length b) : Nat) : Int) < (IntKind.wrap .i64 (at_ + 1)))) = true) → (R (TV.tup [(false, [(AV.fz (FV.int .i64 0))]), (false, [(AV.fz (FV.int .i64 0))])]) [])) ∧ (((decide ((((List.length b) : Nat) : Int) < (IntKind.wrap .i64 (at_ + 1)))) = false) → (ref02_one_L0 R b at_ (IntKind.wrap .i64 n5) 1 1)))))))) ∧ (((decide ((192 : Int) ≤ (IntKind.wrap .i64 n5))) = false) → ((((decide ((128 : Int) ≤ (IntKind.wrap .i64 n5))) = true) → (R (TV.tup [(false, [(AV.fz (FV.int .i64 0))]), (false, [(AV.fz (FV.int .i64 0))])]) [])) ∧ (((decide ((128 : Int) ≤ (IntKind.wrap .i64 n5))) = false) → ((((decide ((((List.length b) : Nat) : Int) < (IntKind.wrap .i64 (at_ + 1)))) = true) → (R (TV.tup [(false, [(AV.fz (FV.int .i64 0))]), (false, [(AV.fz (FV.int .i64 0))])]) [])) ∧ (((decide ((((List.length b) : Nat) : Int) < (IntKind.wrap .i64 (at_ + 1)))) = false) → (ref02_one_L0 R b at_ (IntKind.wrap .i64 n5) 1 1)))))))))) ∧ (((decide ((224 : Int) ≤ (IntKind.wrap .i64 n5))) = false) → ((((decide ((192 : Int) ≤ (IntKind.wrap .i64 n5))) = true) → ((((decide ((IntKind.wrap .i64 n5) < 224)) = true) → ((((decide ((((List.length b) : Nat) : Int) < (IntKind.wrap .i64 (at_ + 2)))) = true) → (R (TV.tup [(false, [(AV.fz (FV.int .i64 0))]), (false, [(AV.fz (FV.int .i64 0))])]) [])) ∧ (((decide ((((List.length b) : Nat) : Int) < (IntKind.wrap .i64 (at_ + 2)))) = false) → (ref02_one_L0 R b at_ (IntKind.wrap .i64 ((IntKind.wrap .i64 n5) - 192)) 2 1)))) ∧ (((decide ((IntKind.wrap .i64 n5) < 224)) = false) → ((((decide ((128 : Int) ≤ (IntKind.wrap .i64 n5))) = true) → (R (TV.tup [(false, [(AV.fz (FV.int .i64 0))]), (false, [(AV.fz (FV.int .i64 0))])]) [])) ∧ (((decide ((128 : Int) ≤ (IntKind.wrap .i64 n5))) = false) → ((((decide ((((List.length b) : Nat) : Int) < (IntKind.wrap .i64 (at_ + 1)))) = true) → (R (TV.tup [(false, [(AV.fz (FV.int .i64 0))]), (false, [(AV.fz (FV.int .i64 0))])]) [])) ∧ (((decide ((((List.length b) : Nat) : Int) < (IntKind.wrap .i64 (at_ + 1)))) = false) → (ref02_one_L0 R b at_ (IntKind.wrap .i64 n5) 1 1)))))))) ∧ (((decide ((192 : Int) ≤ (IntKind.wrap .i64 n5))) = false) → ((((decide ((128 : Int) ≤ (IntKind.wrap .i64 n5))) = true) → (R (TV.tup [(false, [(AV.fz (FV.int .i64 0))]), (false, [(AV.fz (FV.int .i64 0))])]) [])) ∧ (((decide ((128 : Int) ≤ (IntKind.wrap .i64 n5))) = false) → ((((decide ((((List.length b) : Nat) : Int) < (IntKind.wrap .i64 (at_ + 1)))) = true) → (R (TV.tup [(false, [(AV.fz (FV.int .i64 0))]), (false, [(AV.fz (FV.int .i64 0))])]) [])) ∧ (((decide ((((List.length b) : Nat) : Int) < (IntKind.wrap .i64 (at_ + 1)))) = false) → (ref02_one_L0 R b at_ (IntKind.wrap .i64 n5) 1 1))))))))))))))
theorem ref02_one_fn (b : List (List FV)) (at_ : Int) {r : TV} {h : List Ob} (H : ref02_one_H (fun r' h' => r' = r ∧ h' = h) b at_) : Fn Tryd.prog 25 [(TV.one (AV.fz (FV.sl 1 b))), (TV.one (AV.fz (FV.int .i64 at_)))] [] r h :=
  Fn.by_tr (M := (modeOf [] [])) (lv := ref02_one_lv) (own := none) (F := Tryd.f25) (by kernel_rfl) (by kernel_rfl) (by first | decide | simp) (fun _ _ h => h) (by kernel_rfl) H
def ref02_Scalar_lv : List Nat → Keep := lvOf []
def ref02_Scalar_H (R : TV → List Ob → Prop) (c : Int) : Prop :=
  ((((decide ((0 : Int) ≤ c)) = true) → ((((decide (c ≤ 1114111)) = true) → ((((decide ((55296 : Int) ≤ c)) = true) → (R (TV.one (AV.fz (FV.bool (Bool.not (decide (c ≤ 57343)))))) [])) ∧ (((decide ((55296 : Int) ≤ c)) = false) → (R (TV.one (AV.fz (FV.bool true))) [])))) ∧ (((decide (c ≤ 1114111)) = false) → (R (TV.one (AV.fz (FV.bool false))) [])))) ∧ (((decide ((0 : Int) ≤ c)) = false) → (R (TV.one (AV.fz (FV.bool false))) [])))
theorem ref02_Scalar_fn (c : Int) {r : TV} {h : List Ob} (H : ref02_Scalar_H (fun r' h' => r' = r ∧ h' = h) c) : Fn Tryd.prog 13 [(TV.one (AV.fz (FV.int .i64 c)))] [] r h :=
  Fn.by_tr (M := (modeOf [] [])) (lv := ref02_Scalar_lv) (own := none) (F := Tryd.f13) (by kernel_rfl) (by kernel_rfl) (by first | decide | simp) (fun _ _ h => h) (by kernel_rfl) H
def ref02_Bytes_lv : List Nat → Keep := lvOf []
def ref02_Bytes_H (R : TV → List Ob → Prop) (c : Int) : Prop :=
  ((((decide (c < 128)) = true) → (R (TV.one (AV.fz (FV.sl 1 [[(FV.int .u8 (IntKind.wrap .u8 c))]]))) [])) ∧ (((decide (c < 128)) = false) → ((((decide (c < 2048)) = true) → (((64 : Int) ≠ 0) ∧ (((64 : Int) ≠ 0) ∧ (R (TV.one (AV.fz (FV.sl 1 [[(FV.int .u8 (IntKind.wrap .u8 (IntKind.wrap .i64 (192 + (IntKind.wrap .i64 (Int.tdiv c 64))))))], [(FV.int .u8 (IntKind.wrap .u8 (IntKind.wrap .i64 (128 + (Int.tmod c 64)))))]]))) [])))) ∧ (((decide (c < 2048)) = false) → ((((decide (c < 65536)) = true) → (((4096 : Int) ≠ 0) ∧ (((64 : Int) ≠ 0) ∧ (((64 : Int) ≠ 0) ∧ (((64 : Int) ≠ 0) ∧ (R (TV.one (AV.fz (FV.sl 1 [[(FV.int .u8 (IntKind.wrap .u8 (IntKind.wrap .i64 (224 + (IntKind.wrap .i64 (Int.tdiv c 4096))))))], [(FV.int .u8 (IntKind.wrap .u8 (IntKind.wrap .i64 (128 + (Int.tmod (IntKind.wrap .i64 (Int.tdiv c 64)) 64)))))], [(FV.int .u8 (IntKind.wrap .u8 (IntKind.wrap .i64 (128 + (Int.tmod c 64)))))]]))) [])))))) ∧ (((decide (c < 65536)) = false) → (((262144 : Int) ≠ 0) ∧ (((4096 : Int) ≠ 0) ∧ (((64 : Int) ≠ 0) ∧ (((64 : Int) ≠ 0) ∧ (((64 : Int) ≠ 0) ∧ (((64 : Int) ≠ 0) ∧ (R (TV.one (AV.fz (FV.sl 1 [[(FV.int .u8 (IntKind.wrap .u8 (IntKind.wrap .i64 (240 + (IntKind.wrap .i64 (Int.tdiv c 262144))))))], [(FV.int .u8 (IntKind.wrap .u8 (IntKind.wrap .i64 (128 + (Int.tmod (IntKind.wrap .i64 (Int.tdiv c 4096)) 64)))))], [(FV.int .u8 (IntKind.wrap .u8 (IntKind.wrap .i64 (128 + (Int.tmod (IntKind.wrap .i64 (Int.tdiv c 64)) 64)))))], [(FV.int .u8 (IntKind.wrap .u8 (IntKind.wrap .i64 (128 + (Int.tmod c 64)))))]]))) [])))))))))))))
theorem ref02_Bytes_fn (c : Int) {r : TV} {h : List Ob} (H : ref02_Bytes_H (fun r' h' => r' = r ∧ h' = h) c) : Fn Tryd.prog 15 [(TV.one (AV.fz (FV.int .i64 c)))] [] r h :=
  Fn.by_tr (M := (modeOf [] [])) (lv := ref02_Bytes_lv) (own := none) (F := Tryd.f15) (by kernel_rfl) (by kernel_rfl) (by first | decide | simp) (fun _ _ h => h) (by kernel_rfl) H
def ref02_Same_lv : List Nat → Keep := lvOf [([0, 1, 0, 1, 1], ⟨44, 0, [], false, false⟩)]
def ref02_Same_S0 (a0 : Int) (a1 : ByteArray) (a2 : Bool) (a3 : List (List FV)) (a4 : List (List FV)) (a5 : Int) (b0 : Int) (b1 : ByteArray) (b2 : Bool) (b3 : List (List FV)) (b4 : List (List FV)) (b5 : Int) (i : Int) : St := (St.mk [TV.und, TV.und, (TV.one (AV.ptr 0 0 0 0)), (TV.one (AV.ptr 1 0 0 0)), TV.und, (TV.one (AV.fz (FV.int .i64 i))), TV.und, TV.und, TV.und, TV.und, TV.und, TV.und, TV.und, TV.und, TV.und, TV.und, TV.und, TV.und, TV.und, TV.und, TV.und, TV.und, TV.und, TV.und, TV.und, TV.und, TV.und, TV.und, TV.und, TV.und, TV.und, TV.und, TV.und, TV.und, TV.und, TV.und, TV.und, TV.und, TV.und, TV.und, TV.und, TV.und, TV.und, TV.und, TV.und, TV.und, TV.und, TV.und, TV.und, TV.und, TV.und, TV.und, TV.und, TV.und] [(Ob.g 34 [(AV.fz (FV.int .i64 a0)), (AV.fz (FV.str a1)), (AV.fz (FV.bool a2)), (AV.fz (FV.sl 1 a3)), (AV.fz (FV.sl 6 a4)), (AV.fz (FV.int .i64 a5))]), (Ob.g 34 [(AV.fz (FV.int .i64 b0)), (AV.fz (FV.str b1)), (AV.fz (FV.bool b2)), (AV.fz (FV.sl 1 b3)), (AV.fz (FV.sl 6 b4)), (AV.fz (FV.int .i64 b5))])])
def ref02_Same_L0 (R : TV → List Ob → Prop) (a0 : Int) (a1 : ByteArray) (a2 : Bool) (a3 : List (List FV)) (a4 : List (List FV)) (a5 : Int) (b0 : Int) (b1 : ByteArray) (b2 : Bool) (b3 : List (List FV)) (b4 : List (List FV)) (b5 : Int) (i : Int) : Prop := LoopAt Tryd.prog (modeOf [] []) ref02_Same_lv Tryd.f10 none R [1, 1, 0, 1, 0] (ref02_Same_S0 a0 a1 a2 a3 a4 a5 b0 b1 b2 b3 b4 b5 i)
def ref02_Same_R0 (R : TV → List Ob → Prop) (a0 : Int) (a1 : ByteArray) (a2 : Bool) (a3 : List (List FV)) (a4 : List (List FV)) (a5 : Int) (b0 : Int) (b1 : ByteArray) (b2 : Bool) (b3 : List (List FV)) (b4 : List (List FV)) (b5 : Int) (i : Int) : Prop :=
  ((((decide (i < (((List.length a4) : Nat) : Int))) = true) → (((0 : Int) ≤ i) ∧ (∃ n8 : Int, (∃ s4 : ByteArray, (∃ b7 : Bool, (∃ es8 : List (List FV), (∃ es9 : List (List FV), (∃ n9 : Int, (((a4)[(Int.toNat i)]? = (some [(FV.int .i64 n8), (FV.str s4), (FV.bool b7), (FV.sl 1 es8), (FV.sl 6 es9), (FV.int .i64 n9)])) ∧ (((0 : Int) ≤ i) ∧ (∃ n10 : Int, (∃ s5 : ByteArray, (∃ b8 : Bool, (∃ es10 : List (List FV), (∃ es11 : List (List FV), (∃ n11 : Int, (((b4)[(Int.toNat i)]? = (some [(FV.int .i64 n10), (FV.str s5), (FV.bool b8), (FV.sl 1 es10), (FV.sl 6 es11), (FV.int .i64 n11)])) ∧ (∃ b9 : Bool, ((Fn Tryd.prog 10 [(TV.agg [(AV.fz (FV.int .i64 n8)), (AV.fz (FV.str s4)), (AV.fz (FV.bool b7)), (AV.fz (FV.sl 1 es8)), (AV.fz (FV.sl 6 es9)), (AV.fz (FV.int .i64 n9))]), (TV.agg [(AV.fz (FV.int .i64 n10)), (AV.fz (FV.str s5)), (AV.fz (FV.bool b8)), (AV.fz (FV.sl 1 es10)), (AV.fz (FV.sl 6 es11)), (AV.fz (FV.int .i64 n11))])] [] (TV.one (AV.fz (FV.bool b9))) []) ∧ ((((Bool.not b9) = true) → (R (TV.one (AV.fz (FV.bool false))) [])) ∧ (((Bool.not b9) = false) → (ref02_Same_L0 R a0 a1 a2 a3 a4 a5 b0 b1 b2 b3 b4 b5 (IntKind.wrap .i64 (i + 1)))))))))))))))))))))))) ∧ (((decide (i < (((List.length a4) : Nat) : Int))) = false) → (R (TV.one (AV.fz (FV.bool true))) [])))
theorem ref02_Same_l0 {R : TV → List Ob → Prop} {a0 : Int} {a1 : ByteArray} {a2 : Bool} {a3 : List (List FV)} {a4 : List (List FV)} {a5 : Int} {b0 : Int} {b1 : ByteArray} {b2 : Bool} {b3 : List (List FV)} {b4 : List (List FV)} {b5 : Int} {i : Int} (h : ref02_Same_R0 R a0 a1 a2 a3 a4 a5 b0 b1 b2 b3 b4 b5 i) : ref02_Same_L0 R a0 a1 a2 a3 a4 a5 b0 b1 b2 b3 b4 b5 i :=
  LoopAt.by_tr (by kernel_rfl) (by kernel_rfl) h
def ref02_Same_H (R : TV → List Ob → Prop) (a0 : Int) (a1 : ByteArray) (a2 : Bool) (a3 : List (List FV)) (a4 : List (List FV)) (a5 : Int) (b0 : Int) (b1 : ByteArray) (b2 : Bool) (b3 : List (List FV)) (b4 : List (List FV)) (b5 : Int) : Prop :=
  ((((a0 != b0) = true) → (R (TV.one (AV.fz (FV.bool false))) [])) ∧ (((a0 != b0) = false) → ((((Bool.not ((ByteArray.toList a1) == (ByteArray.toList b1))) = true) → (R (TV.one (AV.fz (FV.bool false))) [])) ∧ (((Bool.not ((ByteArray.toList a1) == (ByteArray.toList b1))) = false) → (∃ b7 : Bool, ((Fn Tryd.prog 24 [(TV.agg [(AV.fz (FV.bool a2)), (AV.fz (FV.sl 1 a3))]), (TV.agg [(AV.fz (FV.bool b2)), (AV.fz (FV.sl 1 b3))])] [] (TV.one (AV.fz (FV.bool b7))) []) ∧ ((((Bool.not b7) = true) → (R (TV.one (AV.fz (FV.bool false))) [])) ∧ (((Bool.not b7) = false) → (((((((List.length a4) : Nat) : Int) != (((List.length b4) : Nat) : Int)) = true) → (R (TV.one (AV.fz (FV.bool false))) [])) ∧ ((((((List.length a4) : Nat) : Int) != (((List.length b4) : Nat) : Int)) = false) → (ref02_Same_L0 R a0 a1 a2 a3 a4 a5 b0 b1 b2 b3 b4 b5 0)))))))))))
theorem ref02_Same_fn (a0 : Int) (a1 : ByteArray) (a2 : Bool) (a3 : List (List FV)) (a4 : List (List FV)) (a5 : Int) (b0 : Int) (b1 : ByteArray) (b2 : Bool) (b3 : List (List FV)) (b4 : List (List FV)) (b5 : Int) {r : TV} {h : List Ob} (H : ref02_Same_H (fun r' h' => r' = r ∧ h' = h) a0 a1 a2 a3 a4 a5 b0 b1 b2 b3 b4 b5) : Fn Tryd.prog 10 [(TV.agg [(AV.fz (FV.int .i64 a0)), (AV.fz (FV.str a1)), (AV.fz (FV.bool a2)), (AV.fz (FV.sl 1 a3)), (AV.fz (FV.sl 6 a4)), (AV.fz (FV.int .i64 a5))]), (TV.agg [(AV.fz (FV.int .i64 b0)), (AV.fz (FV.str b1)), (AV.fz (FV.bool b2)), (AV.fz (FV.sl 1 b3)), (AV.fz (FV.sl 6 b4)), (AV.fz (FV.int .i64 b5))])] [] r h :=
  Fn.by_tr (M := (modeOf [] [])) (lv := ref02_Same_lv) (own := none) (F := Tryd.f10) (by kernel_rfl) (by kernel_rfl) (by first | decide | simp) (fun _ _ h => h) (by kernel_rfl) H
end Go.Proofs.YtejefchehdifhaaDoor.Ev
end
section
set_option linter.unusedVariables false
set_option maxRecDepth 100000
namespace Go.Proofs.YtejefchehdifhaaDoor.Ev
open Go
def slices_ContainsFunc_int_int_lv : List Nat → Keep := lvOf []
def slices_ContainsFunc_int_int_H (R : TV → List Ob → Prop) (s : List (List FV)) (f : FV) : Prop :=
  (∃ n1 : Int, ((Fn Tryd.prog 17 [(TV.one (AV.fz (FV.sl 1 s))), (TV.one (AV.fz f))] [] (TV.one (AV.fz (FV.int .i64 n1))) []) ∧ (R (TV.one (AV.fz (FV.bool (decide ((0 : Int) ≤ n1))))) [])))
theorem slices_ContainsFunc_int_int_fn (s : List (List FV)) (f : FV) {r : TV} {h : List Ob} (H : slices_ContainsFunc_int_int_H (fun r' h' => r' = r ∧ h' = h) s f) : Fn Tryd.prog 30 [(TV.one (AV.fz (FV.sl 1 s))), (TV.one (AV.fz f))] [] r h :=
  Fn.by_tr (M := (modeOf [] [])) (lv := slices_ContainsFunc_int_int_lv) (own := none) (F := Tryd.f30) (by kernel_rfl) (by kernel_rfl) (by first | decide | simp) (fun _ _ h => h) (by kernel_rfl) H
def ixEnds_lv : List Nat → Keep := lvOf [([0, 1, 0, 1], ⟨387, 0, [], false, false⟩)]
def ixEnds_S0 (s : List (List FV)) (i : Int) : St := (St.mk [(TV.one (AV.fz (FV.sl 1 s))), (TV.one (AV.fz (FV.fn 31 []))), TV.und, TV.und, TV.und, TV.und, TV.und, (TV.one (AV.fz (FV.int .i64 (((List.length s) : Nat) : Int)))), (TV.one (AV.fz (FV.int .i64 i))), TV.und, TV.und, TV.und, TV.und, TV.und, TV.und, TV.und, TV.und, TV.und, TV.und] [])
def ixEnds_L0 (R : TV → List Ob → Prop) (s : List (List FV)) (i : Int) : Prop := LoopAt Tryd.prog (modeOf [] []) ixEnds_lv Tryd.f17 none R [1, 0, 1, 0] (ixEnds_S0 s i)
def ixEnds_R0 (R : TV → List Ob → Prop) (s : List (List FV)) (i : Int) : Prop :=
  ((((decide (i < (((List.length s) : Nat) : Int))) = true) → (((0 : Int) ≤ i) ∧ (∃ n2 : Int, (((s)[(Int.toNat i)]? = (some [(FV.int .i64 n2)])) ∧ (∃ b2 : Bool, ((Fn Tryd.prog 31 [(TV.one (AV.fz (FV.int .i64 n2)))] [] (TV.one (AV.fz (FV.bool b2))) []) ∧ (((b2 = true) → (R (TV.one (AV.fz (FV.int .i64 i))) [])) ∧ ((b2 = false) → (ixEnds_L0 R s (IntKind.wrap .i64 (i + 1))))))))))) ∧ (((decide (i < (((List.length s) : Nat) : Int))) = false) → (R (TV.one (AV.fz (FV.int .i64 (-1)))) [])))
theorem ixEnds_l0 {R : TV → List Ob → Prop} {s : List (List FV)} {i : Int} (h : ixEnds_R0 R s i) : ixEnds_L0 R s i :=
  LoopAt.by_tr (by kernel_rfl) (by kernel_rfl) h
def ixEnds_H (R : TV → List Ob → Prop) (s : List (List FV)) : Prop :=
  (ixEnds_L0 R s 0)
theorem ixEnds_fn (s : List (List FV)) {r : TV} {h : List Ob} (H : ixEnds_H (fun r' h' => r' = r ∧ h' = h) s) : Fn Tryd.prog 17 [(TV.one (AV.fz (FV.sl 1 s))), (TV.one (AV.fz (FV.fn 31 [])))] [] r h :=
  Fn.by_tr (M := (modeOf [] [])) (lv := ixEnds_lv) (own := none) (F := Tryd.f17) (by kernel_rfl) (by kernel_rfl) (by first | decide | simp) (fun _ _ h => h) (by kernel_rfl) H
end Go.Proofs.YtejefchehdifhaaDoor.Ev
end
section
set_option linter.unusedVariables false
set_option linter.unusedSimpArgs false
namespace Go.Proofs.YtejefchehdifhaaDoor.Ev
open Go Go.RowKit
theorem flat2 {α : Type} (f g : Nat → α) : ∀ (n : Nat), (((List.range n).map fun i => [f i, g i]).flatten).length = 2 * n ∧ ∀ i, i < n → (((List.range n).map fun i => [f i, g i]).flatten)[2 * i]? = some (f i) ∧ (((List.range n).map fun i => [f i, g i]).flatten)[2 * i + 1]? = some (g i)
  | 0 => ⟨rfl, fun i h => by omega⟩
  | n + 1 => by
    obtain ⟨h1, h2⟩ := flat2 f g n
    rw [List.range_succ, List.map_append, List.flatten_append]
    refine ⟨by rw [List.length_append, h1]; simp; omega, fun i hi => ?_⟩
    by_cases h : i < n
    · rw [List.getElem?_append_left (by omega), List.getElem?_append_left (by omega)]
      exact h2 i h
    · have : i = n := by omega
      subst this
      rw [List.getElem?_append_right (by omega), List.getElem?_append_right (by omega), h1]
      simp
theorem utf_tabs {w : World} (h : Glob w) : Lib.Utf8Tabs 1 2 w := by
  constructor
  · intro c hc
    have h1 := h (1, (List.range 256).map fun c => FV.int .u8 ((Go.Lib.firstT c : Nat) : Int)) (by simp [tabs])
    obtain ⟨cs, t, z, h2, h3, h4⟩ := h1
    obtain ⟨v, hv, hr⟩ := h4 c (.int .u8 ((Go.Lib.firstT c : Nat) : Int)) (by simp [hc])
    cases hr
    simp only at h2
    simp [World.cell?, h2, hv]
  · intro i hi
    have h1 := h (2, ((List.range 16).map fun i => [FV.int .u8 ((Go.Lib.accLo i : Nat) : Int), FV.int .u8 ((Go.Lib.accHi i : Nat) : Int)]).flatten) (by simp [tabs])
    obtain ⟨cs, t, z, h2, h3, h4⟩ := h1
    have hf := (flat2 (fun i => FV.int .u8 ((Go.Lib.accLo i : Nat) : Int)) (fun i => FV.int .u8 ((Go.Lib.accHi i : Nat) : Int)) 16).2 i hi
    obtain ⟨v, hv, hr⟩ := h4 (2 * i) _ hf.1
    obtain ⟨v', hv', hr'⟩ := h4 (2 * i + 1) _ hf.2
    cases hr; cases hr'
    simp only at h2
    simp [World.cell?, h2, hv, hv']
def chN (n b0 b1 b2 b3 : Int) : Int × Int :=
  if b0 < 128 then (b0, 1)
  else if 192 ≤ b0 ∧ b0 < 224 then (if 2 ≤ n ∧ 128 ≤ b1 ∧ b1 < 192 ∧ 128 ≤ (b0 - 192) * 64 + b1 - 128 then ((b0 - 192) * 64 + b1 - 128, 2) else (0, 0))
  else if 224 ≤ b0 ∧ b0 < 240 then
    (if 3 ≤ n ∧ 128 ≤ b1 ∧ b1 < 192 ∧ 128 ≤ b2 ∧ b2 < 192 ∧ 2048 ≤ ((b0 - 224) * 64 + b1 - 128) * 64 + b2 - 128 ∧ ¬ (55296 ≤ ((b0 - 224) * 64 + b1 - 128) * 64 + b2 - 128 ∧ ((b0 - 224) * 64 + b1 - 128) * 64 + b2 - 128 ≤ 57343)
     then (((b0 - 224) * 64 + b1 - 128) * 64 + b2 - 128, 3) else (0, 0))
  else if 240 ≤ b0 ∧ b0 < 248 then
    (if 4 ≤ n ∧ 128 ≤ b1 ∧ b1 < 192 ∧ 128 ≤ b2 ∧ b2 < 192 ∧ 128 ≤ b3 ∧ b3 < 192 ∧ 65536 ≤ (((b0 - 240) * 64 + b1 - 128) * 64 + b2 - 128) * 64 + b3 - 128 ∧ (((b0 - 240) * 64 + b1 - 128) * 64 + b2 - 128) * 64 + b3 - 128 ≤ 1114111
     then ((((b0 - 240) * 64 + b1 - 128) * 64 + b2 - 128) * 64 + b3 - 128, 4) else (0, 0))
  else (0, 0)
def ch1 (l : List Int) : Int × Int := chN l.length (rd l 0) (rd l 1) (rd l 2) (rd l 3)
theorem decodeN_chN' (n b0 b1 b2 b3 : Nat) (h0 : b0 < 256) (h1 : b1 < 256) (h2 : b2 < 256) (h3 : b3 < 256) (p : Nat × Nat) (hp : Lib.decodeN n b0 b1 b2 b3 = p) (q : Int × Int) (hq : chN n b0 b1 b2 b3 = q) :
    (q.1 = 0 ∧ q.2 = 0 ∧ p.1 = 65533 ∧ p.2 = 1) ∨ (q.1 = (p.1 : Int) ∧ q.2 = (p.2 : Int) ∧ ¬ (p.1 = 65533 ∧ p.2 < 2)) := by
  unfold Lib.decodeN at hp
  unfold chN at hq
  repeat' split at hp
  all_goals subst hp
  all_goals repeat' split at hq
  all_goals subst hq
  all_goals first | (exfalso; omega) | (refine .inl ⟨rfl, rfl, rfl, rfl⟩) | (refine .inr ⟨?_, ?_, ?_⟩ <;> simp only <;> omega)
theorem decodeN_chN (n b0 b1 b2 b3 : Nat) (h0 : b0 < 256) (h1 : b1 < 256) (h2 : b2 < 256) (h3 : b3 < 256) :
    (chN n b0 b1 b2 b3 = (0, 0) ∧ Lib.decodeN n b0 b1 b2 b3 = (65533, 1)) ∨ (chN n b0 b1 b2 b3 = (((Lib.decodeN n b0 b1 b2 b3).1 : Int), ((Lib.decodeN n b0 b1 b2 b3).2 : Int)) ∧ ¬ ((Lib.decodeN n b0 b1 b2 b3).1 = 65533 ∧ (Lib.decodeN n b0 b1 b2 b3).2 < 2)) := by
  rcases decodeN_chN' n b0 b1 b2 b3 h0 h1 h2 h3 _ rfl _ rfl with ⟨e1, e2, e3, e4⟩ | ⟨e1, e2, e3⟩
  · exact .inl ⟨Prod.ext e1 e2, Prod.ext e3 e4⟩
  · exact .inr ⟨Prod.ext e1 e2, e3⟩
theorem rd_byte {l : List Int} (h : Bytes l) (i : Nat) : 0 ≤ rd l i ∧ rd l i < 256 := by
  by_cases hi : i < l.length
  · rw [rd_at l i hi]; exact h _ (List.getElem_mem _)
  · unfold rd; rw [List.getD_eq_getElem?_getD, List.getElem?_eq_none (by omega)]; simp
theorem get_of {l : List Int} (h : Bytes l) (i : Nat) : ((bytesOf l).get! i).toNat = (rd l i).toNat := by
  have e : (bytesOf l).get! i = ((bytesOf l).data[i]?).getD default := by
    show (bytesOf l).data[i]! = _
    rw [getElem!_def]
    cases (bytesOf l).data[i]? <;> rfl
  rw [e]
  by_cases hi : i < l.length
  · obtain ⟨c, hc, hcn⟩ := byte_at h hi
    rw [hc, Option.getD_some, ← hcn]; rfl
  · have hn : (bytesOf l).data[i]? = none := by
      rw [Array.getElem?_eq_none]
      have h1 := size_of l
      have h2 : (bytesOf l).data.size = (bytesOf l).size := rfl
      omega
    rw [hn]
    unfold rd; rw [List.getD_eq_getElem?_getD, List.getElem?_eq_none (by omega)]; rfl
def deR (l : List Int) : Int := ((Lib.decodeGo (bytesOf l)).1 : Int)
def deN (l : List Int) : Int := ((Lib.decodeGo (bytesOf l)).2 : Int)
theorem de_ch1 {l : List Int} (h : Bytes l) (hne : l ≠ []) : (ch1 l = (0, 0) ∧ deR l = 65533 ∧ deN l = 1) ∨ (ch1 l = (deR l, deN l) ∧ ¬ (deR l = 65533 ∧ deN l < 2)) := by
  have hs : (bytesOf l).size = l.length := size_of l
  have hl : l.length ≠ 0 := fun h => hne (List.length_eq_zero_iff.1 h)
  have e : Lib.decodeGo (bytesOf l) = Lib.decodeN l.length (rd l 0).toNat (rd l 1).toNat (rd l 2).toNat (rd l 3).toNat := by
    unfold Lib.decodeGo
    rw [if_neg (by omega), Lib.decode_at, hs]
    simp only [Nat.sub_zero, Nat.zero_add, get_of h]
  unfold deR deN ch1
  rw [e]
  have b0 := rd_byte h 0; have b1 := rd_byte h 1; have b2 := rd_byte h 2; have b3 := rd_byte h 3
  have k := decodeN_chN l.length (rd l 0).toNat (rd l 1).toNat (rd l 2).toNat (rd l 3).toNat (by omega) (by omega) (by omega) (by omega)
  rw [Int.toNat_of_nonneg b0.1, Int.toNat_of_nonneg b1.1, Int.toNat_of_nonneg b2.1, Int.toNat_of_nonneg b3.1] at k
  rcases k with ⟨k1, k2⟩ | ⟨k1, k2⟩
  · left
    exact ⟨k1, by rw [k2]; rfl, by rw [k2]; rfl⟩
  · right
    exact ⟨k1, by omega⟩
theorem chN_bounds (n b0 b1 b2 b3 : Int) (h0 : 0 ≤ b0) (h1 : b0 < 256) (hn : 1 ≤ n) : 0 ≤ (chN n b0 b1 b2 b3).1 ∧ (chN n b0 b1 b2 b3).1 ≤ 1114111 ∧ 0 ≤ (chN n b0 b1 b2 b3).2 ∧ (chN n b0 b1 b2 b3).2 ≤ n ∧ (chN n b0 b1 b2 b3).2 ≤ 4 := by
  unfold chN
  repeat' split
  all_goals (simp only; omega)
theorem ch1_bounds {l : List Int} (h : Bytes l) (hne : l ≠ []) : 0 ≤ (ch1 l).1 ∧ (ch1 l).1 ≤ 1114111 ∧ 0 ≤ (ch1 l).2 ∧ (ch1 l).2 ≤ l.length ∧ (ch1 l).2 ≤ 4 := by
  have hl : l.length ≠ 0 := fun h => hne (List.length_eq_zero_iff.1 h)
  have b0 := rd_byte h 0
  exact chN_bounds _ _ _ _ _ b0.1 b0.2 (by omega)
theorem DecodeRune_fn {l : List Int} (h : Bytes l) (hne : l ≠ []) : Fn Tryd.prog 43 [fzS .u8 l] [] (.tup [(false, [.fz (.int .i32 (deR l))]), (false, [.fz (.int .i64 (deN l))])]) [] := by
  intro ext w locs vals H hsz hrep
  obtain ⟨v, hv, hr⟩ := hrep 0 _ rfl
  have e : vals = #[v] := by
    apply Array.ext
    · simpa using hsz
    · intro i h1 h2
      have : i = 0 := by simp at h2; omega
      subst this
      rw [Array.getElem?_eq_getElem h1] at hv
      simpa using hv
  subst e
  replace hr : RF w (Bar ext locs []) (.sl 1 (ints .u8 l)) v := hr
  clear hrep hsz hv
  generalize hL : ints .u8 l = L at hr
  cases hr with
  | slN sz a c => exact absurd (ints_eq_nil.1 hL) hne
  | sl es b off c sz cv hb hc hsz hcell hr =>
    subst hL
    have hs : (bytesOf l).size = (ints .u8 l).length := by rw [size_of, ints_len]
    have key := Tryd.utf8_DecodeRune (bytesOf l) b off c w (utf_tabs H.glob) (fun j hj => by
      rw [size_of] at hj
      have hg : (ints .u8 l)[j]? = some [.int .u8 (rd l j)] := by simp [ints, rd_at l j hj, hj]
      have h1 := hcell j _ 0 _ hg rfl
      have h2 := hr j _ 0 _ hg rfl
      rw [Nat.mul_one, Nat.add_zero] at h1
      rw [h1]
      generalize cv j 0 = u at h2
      cases h2
      rw [get_of h, Int.toNat_of_nonneg (rd_byte h j).1])
    rw [hs] at key
    refine key.mono ?_
    rintro e w' ⟨rfl, hb⟩
    refine ⟨.tuple #[.int .i32 (deR l), .int .i64 (deN l)], locs, rfl, H.below hb, #[.int .i32 (deR l), .int .i64 (deN l)], rfl, rfl, fun i b' cs hi => ?_⟩
    match i with
    | 0 =>
      cases hi
      refine ⟨.int .i32 (deR l), rfl, [.int .i32 (deR l)], rfl, rfl, fun _ => rfl, fun j x hj => ?_⟩
      cases j with
      | zero => cases hj; exact ⟨_, rfl, .int _ _⟩
      | succ j => simp at hj
    | 1 =>
      cases hi
      refine ⟨.int .i64 (deN l), rfl, [.int .i64 (deN l)], rfl, rfl, fun _ => rfl, fun j x hj => ?_⟩
      cases j with
      | zero => cases hj; exact ⟨_, rfl, .int _ _⟩
      | succ j => simp at hj
    | i + 2 => simp at hi
def chs : Nat → List Int → Nat → List Int → List Int × Int
  | 0, _, _, _ => ([], -1)
  | f + 1, l, at_, acc => if l.length ≤ at_ then (acc, -1) else if (ch1 (l.drop at_)).2 = 0 then ([], at_) else chs f l (at_ + (ch1 (l.drop at_)).2.toNat) (acc ++ [(ch1 (l.drop at_)).1])
def chars (l : List Int) : List Int × Int := chs (l.length + 1) l 0 []
theorem drop_bytes {l : List Int} (h : Bytes l) (n : Nat) : Bytes (l.drop n) := fun x hx => h x (List.mem_of_mem_drop hx)
theorem w32_in {n : Int} (h0 : -2147483648 ≤ n) (h1 : n ≤ 2147483647) : IntKind.wrap .i32 n = n := IntWalk.i32_in n ⟨h0, h1⟩
theorem decode_loop (l : List Int) (h : Bytes l) (hlen : l.length ≤ 65536) (R : TV → List Ob → Prop)
    (hok : (chars l).2 = -1 → R (.tup [(false, [.fz (.sl 1 (ints .i64 (chars l).1))]), (false, [.fz (.int .i64 0)]), (false, [.fz (.int .i64 0)])]) [])
    (hbad : (chars l).2 ≠ -1 → R (.tup [(false, [.fz (.sl 1 ([] : List (List FV)))]), (false, [.fz (.int .i64 (chars l).2)]), (false, [.fz (.int .i64 4)])]) []) :
    ∀ (f at_ : Nat) (acc : List Int), at_ ≤ l.length → l.length - at_ < f → acc.length ≤ at_ → chs f l at_ acc = chars l → utf_Decode_L0 R (ints .u8 l) at_ (ints .i64 acc)
  | 0, at_, acc, h1, h2, h3, h4 => by omega
  | f + 1, at_, acc, h1, h2, h3, h4 => by
    refine utf_Decode_l0 ?_
    unfold utf_Decode_R0
    unfold chs at h4
    simp only [ints_len, ints_app, ints_snoc, ints_take, ints_drop, ints_set, ints_rep, ints_one, ex_rd, dec_t, dec_f, beq_t, beq_f, bne_t, bne_f, not_t, not_f, List.length_set, List.length_append, List.length_cons, List.length_nil, List.length_take, List.length_drop, List.length_replicate, Int.toNat_natCast, List.nil_append, Bool.not_true, Bool.not_false, Wk_nil, Wk_cons, wk1_same, wk1_f, and_true, true_and, Bool.false_eq_true, Bool.true_eq_false, false_implies, forall_const]
    by_cases hat : l.length ≤ at_
    · rw [if_pos hat] at h4
      refine ⟨fun h => by omega, fun _ => ?_⟩
      rw [← h4] at hok
      exact hok rfl
    · rw [if_neg hat] at h4
      have hne : l.drop at_ ≠ [] := fun e => by have := congrArg List.length e; simp at this; omega
      have hb := drop_bytes h at_
      have hd := DecodeRune_fn hb hne
      have hc := de_ch1 hb hne
      have hbd := ch1_bounds hb hne
      rw [List.length_drop] at hbd
      refine ⟨fun _ => ⟨by omega, _, _, hd, ?_⟩, fun h => by omega⟩
      rcases hc with ⟨c1, c2, c3⟩ | ⟨c1, c2⟩
      · rw [c1, if_pos rfl] at h4
        rw [← h4] at hbad
        refine ⟨fun _ => ⟨fun _ => hbad (by simp only; omega), fun h => by omega⟩, fun h => absurd c2 h⟩
      · have g1 : (ch1 (l.drop at_)).1 = deR (l.drop at_) := by rw [c1]
        have g2 : (ch1 (l.drop at_)).2 = deN (l.drop at_) := by rw [c1]
        have hn0 : (ch1 (l.drop at_)).2 ≠ 0 := by
          intro h0
          rw [g1, g2] at *
          have hd0 : deN (l.drop at_) = 0 := h0
          have hg : 1 ≤ deN (l.drop at_) := by
            have := hbd
            unfold deN
            unfold deN at hd0
            have hs : (bytesOf (l.drop at_)).size = (l.drop at_).length := size_of _
            have hl : (l.drop at_).length ≠ 0 := fun h => hne (List.length_eq_zero_iff.1 h)
            unfold Lib.decodeGo at hd0 ⊢
            rw [if_neg (by omega), Lib.decode_at] at hd0 ⊢
            revert hd0
            unfold Lib.decodeN
            repeat' split
            all_goals (simp)
          omega
        rw [if_neg hn0, g1, g2] at h4
        rw [g1, g2] at hbd
        have ih := decode_loop l h hlen R hok hbad f (at_ + (deN (l.drop at_)).toNat) (acc ++ [deR (l.drop at_)]) (by omega) (by omega) (by rw [List.length_append, List.length_singleton]; omega) h4
        have e1 : IntKind.wrap .i64 (deR (l.drop at_)) = deR (l.drop at_) := w64 (by omega) (by omega)
        have e2 : IntKind.wrap .i64 ((at_ : Int) + deN (l.drop at_)) = ((at_ + (deN (l.drop at_)).toNat : Nat) : Int) := by rw [w64 (by omega) (by omega)]; omega
        rw [e1, e2]
        refine ⟨fun h65 => ⟨fun h => by omega, fun _ => ⟨by omega, ih⟩⟩, fun _ => ⟨by omega, ih⟩⟩
def decL (l : List Int) : List Int := if 65536 < l.length then [] else if (chars l).2 = -1 then (chars l).1 else []
def decA (l : List Int) : Int := if 65536 < l.length then 0 else if (chars l).2 = -1 then 0 else (chars l).2
def decE (l : List Int) : Int := if 65536 < l.length then 6 else if (chars l).2 = -1 then 0 else 4
theorem utfDecode_ok (l : List Int) (h : Bytes l) : Fn Tryd.prog 28 [fzS .u8 l] [] (.tup [(false, [.fz (.sl 1 (ints .i64 (decL l)))]), (false, [.fz (.int .i64 (decA l))]), (false, [.fz (.int .i64 (decE l))])]) [] := by
  refine utf_Decode_fn _ ?_
  unfold utf_Decode_H decL decA decE
  rw [ints_len, dec_t, dec_f]
  refine ⟨fun h1 => ?_, fun h1 => ?_⟩
  · have hl : 65536 < l.length := by omega
    simp [if_pos hl, ints]
  · have hl : ¬ 65536 < l.length := by omega
    simp only [if_neg hl]
    refine decode_loop l h (by omega) _ (fun h2 => ?_) (fun h2 => ?_) (l.length + 1) 0 [] (by omega) (by omega) (by simp) rfl
    · simp [if_pos h2]
    · simp [if_neg h2, ints]
end Go.Proofs.YtejefchehdifhaaDoor.Ev
end
section
set_option linter.unusedVariables false
set_option linter.unusedSimpArgs false
namespace Go.Proofs.YtejefchehdifhaaDoor.Ev
open Go
def scalB (c : Int) : Bool := decide (0 ≤ c) && decide (c ≤ 1114111) && !(decide (55296 ≤ c) && decide (c ≤ 57343))
theorem rScalar_ok (c : Int) : Fn Tryd.prog 13 [fzI .i64 c] [] (fzB (scalB c)) [] := by
  refine ref02_Scalar_fn _ ?_
  unfold ref02_Scalar_H scalB
  rw [dec_t, dec_f, dec_t, dec_f, dec_t, dec_f]
  refine ⟨fun h => ⟨fun h2 => ⟨fun h3 => ?_, fun h3 => ?_⟩, fun h2 => ?_⟩, fun h => ?_⟩
  · rw [decide_eq_true h, decide_eq_true h2, decide_eq_true h3]; exact ⟨rfl, rfl⟩
  · rw [decide_eq_true h, decide_eq_true h2, decide_eq_false h3]; exact ⟨rfl, rfl⟩
  · rw [decide_eq_false h2, Bool.and_false]; exact ⟨rfl, rfl⟩
  · rw [decide_eq_false h]; exact ⟨rfl, rfl⟩
def utfB (c : Int) : List Int :=
  if c < 128 then [c] else if c < 2048 then [192 + c / 64, 128 + c % 64]
  else if c < 65536 then [224 + c / 4096, 128 + c / 64 % 64, 128 + c % 64]
  else [240 + c / 262144, 128 + c / 4096 % 64, 128 + c / 64 % 64, 128 + c % 64]
theorem rBytes_ok (c : Int) (h : scalB c = true) : Fn Tryd.prog 15 [fzI .i64 c] [] (fzS .u8 (utfB c)) [] := by
  unfold scalB at h
  simp only [Bool.and_eq_true, decide_eq_true_eq] at h
  obtain ⟨⟨h0, h1⟩, _⟩ := h
  refine ref02_Bytes_fn _ ?_
  unfold ref02_Bytes_H utfB
  rw [dec_t, dec_f, dec_t, dec_f, dec_t, dec_f]
  have t1 : Int.tdiv c 64 = c / 64 := Int.tdiv_eq_ediv_of_nonneg h0
  have t2 : Int.tdiv c 4096 = c / 4096 := Int.tdiv_eq_ediv_of_nonneg h0
  have t3 : Int.tdiv c 262144 = c / 262144 := Int.tdiv_eq_ediv_of_nonneg h0
  have m1 : Int.tmod c 64 = c % 64 := Int.tmod_eq_emod_of_nonneg h0
  have w1 : IntKind.wrap .i64 (c / 64) = c / 64 := w64 (by omega) (by omega)
  have w2 : IntKind.wrap .i64 (c / 4096) = c / 4096 := w64 (by omega) (by omega)
  have w3 : IntKind.wrap .i64 (c / 262144) = c / 262144 := w64 (by omega) (by omega)
  have m2 : Int.tmod (c / 64) 64 = c / 64 % 64 := Int.tmod_eq_emod_of_nonneg (by omega)
  have m3 : Int.tmod (c / 4096) 64 = c / 4096 % 64 := Int.tmod_eq_emod_of_nonneg (by omega)
  have v1 : IntKind.wrap .i64 (128 + c % 64) = 128 + c % 64 := w64 (by omega) (by omega)
  have v2 : IntKind.wrap .i64 (128 + c / 64 % 64) = 128 + c / 64 % 64 := w64 (by omega) (by omega)
  have v3 : IntKind.wrap .i64 (128 + c / 4096 % 64) = 128 + c / 4096 % 64 := w64 (by omega) (by omega)
  have u1 : IntKind.wrap .u8 (128 + c % 64) = 128 + c % 64 := wu8 (by omega) (by omega)
  have u2 : IntKind.wrap .u8 (128 + c / 64 % 64) = 128 + c / 64 % 64 := wu8 (by omega) (by omega)
  have u3 : IntKind.wrap .u8 (128 + c / 4096 % 64) = 128 + c / 4096 % 64 := wu8 (by omega) (by omega)
  refine ⟨fun h => ?_, fun h => ⟨fun h2 => ⟨by omega, by omega, ?_⟩, fun h2 => ⟨fun h3 => ⟨by omega, by omega, by omega, by omega, ?_⟩, fun h3 => ⟨by omega, by omega, by omega, by omega, by omega, by omega, ?_⟩⟩⟩⟩
  · rw [if_pos h, wu8 (by omega) (by omega)]; exact ⟨rfl, rfl⟩
  · have x1 : IntKind.wrap .i64 (192 + c / 64) = 192 + c / 64 := w64 (by omega) (by omega)
    have x2 : IntKind.wrap .u8 (192 + c / 64) = 192 + c / 64 := wu8 (by omega) (by omega)
    rw [if_neg h, if_pos h2, t1, w1, x1, x2, m1, v1, u1]; exact ⟨rfl, rfl⟩
  · have x1 : IntKind.wrap .i64 (224 + c / 4096) = 224 + c / 4096 := w64 (by omega) (by omega)
    have x2 : IntKind.wrap .u8 (224 + c / 4096) = 224 + c / 4096 := wu8 (by omega) (by omega)
    rw [if_neg h, if_neg h2, if_pos h3, t2, w2, x1, x2, t1, w1, m2, v2, u2, m1, v1, u1]; exact ⟨rfl, rfl⟩
  · have x1 : IntKind.wrap .i64 (240 + c / 262144) = 240 + c / 262144 := w64 (by omega) (by omega)
    have x2 : IntKind.wrap .u8 (240 + c / 262144) = 240 + c / 262144 := wu8 (by omega) (by omega)
    rw [if_neg h, if_neg h2, if_neg h3, t3, w3, x1, x2, t2, w2, m3, v3, u3, t1, w1, m2, v2, u2, m1, v1, u1]; exact ⟨rfl, rfl⟩
theorem utfB_len (c : Int) : ((utfB c).length : Int) = if c < 128 then 1 else if c < 2048 then 2 else if c < 65536 then 3 else 4 := by
  unfold utfB
  repeat' split
  all_goals rfl
abbrev oneT (p : Int × Int) : TV := .tup [(false, [.fz (.int .i64 p.1)]), (false, [.fz (.int .i64 p.2)])]
def oneZ (c n : Int) : Int × Int := if scalB c = true ∧ ((utfB c).length : Int) = n then (c, n) else (0, 0)
theorem one_end (b : List (List FV)) (at_ c n i : Int) (hi : ¬ i < n) (R : TV → List Ob → Prop) (hR : R (oneT (oneZ c n)) []) : ref02_one_L0 R b at_ c n i := by
  refine ref02_one_l0 ?_
  unfold ref02_one_R0
  rw [dec_t, dec_f]
  refine ⟨fun h => absurd h hi, fun _ => ⟨_, rScalar_ok c, ?_⟩⟩
  unfold oneZ at hR
  rw [not_t, not_f]
  refine ⟨fun h => ?_, fun h => ⟨_, rBytes_ok c h, ?_⟩⟩
  · rw [if_neg (by rw [h]; simp)] at hR; exact hR
  · rw [ints_len, bne_t, bne_f]
    refine ⟨fun h2 => ?_, fun h2 => ?_⟩
    · rw [if_neg (fun h3 => h2 h3.2)] at hR; exact hR
    · rw [if_pos ⟨h, h2⟩] at hR; exact hR
def oneS (x : Int) (p : Int × Int) : Int × Int := if x < 128 ∨ 192 ≤ x then (0, 0) else p
theorem one_step (l : List Int) (hl : Bytes l) (hlen : l.length ≤ 140737488355328) (at_ i : Nat) (c n : Int) (hi : (i : Int) < n) (hn : at_ + i < l.length) (hc0 : 0 ≤ c) (hc1 : c ≤ 1114111) (p : Int × Int) (R : TV → List Ob → Prop) (hR : R (oneT (oneS (rd l (at_ + i)) p)) [])
    (hk : 128 ≤ rd l (at_ + i) → rd l (at_ + i) < 192 → R (oneT p) [] → ref02_one_L0 R (ints .u8 l) at_ (c * 64 + rd l (at_ + i) - 128) n ((i + 1 : Nat) : Int)) : ref02_one_L0 R (ints .u8 l) at_ c n i := by
  refine ref02_one_l0 ?_
  unfold ref02_one_R0
  have e1 : IntKind.wrap .i64 ((at_ : Int) + (i : Int)) = ((at_ + i : Nat) : Int) := w64 (by omega) (by omega)
  have hb := rd_byte hl (at_ + i)
  have e2 : IntKind.wrap .i64 (rd l (at_ + i)) = rd l (at_ + i) := w64 (by omega) (by omega)
  have e3 : IntKind.wrap .i64 ((i : Int) + 1) = ((i + 1 : Nat) : Int) := w64 (by omega) (by omega)
  have e4 : IntKind.wrap .i64 (c * 64) = c * 64 := w64 (by omega) (by omega)
  have e5 : IntKind.wrap .i64 (c * 64 + rd l (at_ + i)) = c * 64 + rd l (at_ + i) := w64 (by omega) (by omega)
  have e6 : IntKind.wrap .i64 (c * 64 + rd l (at_ + i) - 128) = c * 64 + rd l (at_ + i) - 128 := w64 (by omega) (by omega)
  have hg : (ints .u8 l)[at_ + i]? = some [.int .u8 (rd l (at_ + i))] := by simp [ints, rd_at l _ hn, hn]
  rw [e1, Int.toNat_natCast, e3, dec_t, dec_f]
  unfold oneS at hR
  refine ⟨fun _ => ⟨by omega, _, hg, ?_⟩, fun h => absurd hi h⟩
  rw [e2, dec_t, dec_f, dec_t, dec_f, e4, e5, e6]
  refine ⟨fun h => ?_, fun h => ⟨fun h2 => ?_, fun h2 => ?_⟩⟩
  · rw [if_pos (.inl h)] at hR; exact hR
  · rw [if_pos (.inr h2)] at hR; exact hR
  · rw [if_neg (by omega)] at hR
    exact hk (by omega) (by omega) hR
theorem oneZ_eq (c n : Int) : oneZ c n = if (0 ≤ c ∧ c ≤ 1114111 ∧ ¬ (55296 ≤ c ∧ c ≤ 57343)) ∧ (if c < 128 then 1 else if c < 2048 then 2 else if c < 65536 then 3 else 4) = n then (c, n) else (0, 0) := by
  unfold oneZ
  have e : (scalB c = true) ↔ (0 ≤ c ∧ c ≤ 1114111 ∧ ¬ (55296 ≤ c ∧ c ≤ 57343)) := by
    unfold scalB
    simp only [Bool.and_eq_true, Bool.not_eq_true', Bool.and_eq_false_iff, decide_eq_true_eq, decide_eq_false_iff_not]
    omega
  simp only [e, utfB_len]
theorem one_two (l : List Int) (hl : Bytes l) (hlen : l.length ≤ 140737488355328) (at_ : Nat) (c : Int) (hn : at_ + 1 < l.length) (hc0 : 0 ≤ c) (hc1 : c < 32) (R : TV → List Ob → Prop) (hR : R (oneT (oneS (rd l (at_ + 1)) (oneZ (c * 64 + rd l (at_ + 1) - 128) 2))) []) : ref02_one_L0 R (ints .u8 l) at_ c 2 1 := by
  have hb := rd_byte hl (at_ + 1)
  exact one_step l hl hlen at_ 1 c 2 (by omega) hn hc0 (by omega) _ R hR fun _ _ hR => one_end _ _ _ _ _ (by omega) R hR
theorem one_three (l : List Int) (hl : Bytes l) (hlen : l.length ≤ 140737488355328) (at_ : Nat) (c : Int) (hn : at_ + 2 < l.length) (hc0 : 0 ≤ c) (hc1 : c < 16) (R : TV → List Ob → Prop)
    (hR : R (oneT (oneS (rd l (at_ + 1)) (oneS (rd l (at_ + 2)) (oneZ ((c * 64 + rd l (at_ + 1) - 128) * 64 + rd l (at_ + 2) - 128) 3)))) []) : ref02_one_L0 R (ints .u8 l) at_ c 3 1 := by
  have hb := rd_byte hl (at_ + 1)
  have hb2 := rd_byte hl (at_ + 2)
  refine one_step l hl hlen at_ 1 c 3 (by omega) (by omega) hc0 (by omega) _ R hR fun h1 h2 hR => ?_
  exact one_step l hl hlen at_ 2 _ 3 (by omega) hn (by omega) (by omega) _ R hR fun _ _ hR => one_end _ _ _ _ _ (by omega) R hR
theorem one_four (l : List Int) (hl : Bytes l) (hlen : l.length ≤ 140737488355328) (at_ : Nat) (c : Int) (hn : at_ + 3 < l.length) (hc0 : 0 ≤ c) (hc1 : c < 8) (R : TV → List Ob → Prop)
    (hR : R (oneT (oneS (rd l (at_ + 1)) (oneS (rd l (at_ + 2)) (oneS (rd l (at_ + 3)) (oneZ (((c * 64 + rd l (at_ + 1) - 128) * 64 + rd l (at_ + 2) - 128) * 64 + rd l (at_ + 3) - 128) 4))))) []) : ref02_one_L0 R (ints .u8 l) at_ c 4 1 := by
  have hb := rd_byte hl (at_ + 1)
  have hb2 := rd_byte hl (at_ + 2)
  have hb3 := rd_byte hl (at_ + 3)
  refine one_step l hl hlen at_ 1 c 4 (by omega) (by omega) hc0 (by omega) _ R hR fun h1 h2 hR => ?_
  refine one_step l hl hlen at_ 2 _ 4 (by omega) (by omega) (by omega) (by omega) _ R hR fun _ _ hR => ?_
  exact one_step l hl hlen at_ 3 _ 4 (by omega) hn (by omega) (by omega) _ R hR fun _ _ hR => one_end _ _ _ _ _ (by omega) R hR
theorem rd_dropN (l : List Int) (n i : Nat) : rd (l.drop n) i = rd l (n + i) := by
  unfold rd
  rw [List.getD_eq_getElem?_getD, List.getD_eq_getElem?_getD, List.getElem?_drop]
set_option maxHeartbeats 1000000 in
theorem one_head (l : List Int) (hl : Bytes l) (hlen : l.length ≤ 140737488355328) (at_ : Nat) (hat : at_ < l.length) (R : TV → List Ob → Prop) (hR : R (oneT (chN ((l.length : Int) - at_) (rd l at_) (rd l (at_ + 1)) (rd l (at_ + 2)) (rd l (at_ + 3)))) []) : ref02_one_H R (ints .u8 l) at_ := by
  unfold ref02_one_H
  have hb := rd_byte hl at_
  have hb1 := rd_byte hl (at_ + 1)
  have hb2 := rd_byte hl (at_ + 2)
  have hb3 := rd_byte hl (at_ + 3)
  have e2 : IntKind.wrap .i64 (rd l at_) = rd l at_ := w64 (by omega) (by omega)
  have f1 : IntKind.wrap .i64 (rd l at_ - 240) = rd l at_ - 240 := w64 (by omega) (by omega)
  have f2 : IntKind.wrap .i64 (rd l at_ - 224) = rd l at_ - 224 := w64 (by omega) (by omega)
  have f3 : IntKind.wrap .i64 (rd l at_ - 192) = rd l at_ - 192 := w64 (by omega) (by omega)
  have g1 : IntKind.wrap .i64 ((at_ : Int) + 1) = (at_ : Int) + 1 := w64 (by omega) (by omega)
  have g2 : IntKind.wrap .i64 ((at_ : Int) + 2) = (at_ : Int) + 2 := w64 (by omega) (by omega)
  have g3 : IntKind.wrap .i64 ((at_ : Int) + 3) = (at_ : Int) + 3 := w64 (by omega) (by omega)
  have g4 : IntKind.wrap .i64 ((at_ : Int) + 4) = (at_ : Int) + 4 := w64 (by omega) (by omega)
  have hg : (ints .u8 l)[at_]? = some [.int .u8 (rd l at_)] := by simp [ints, rd_at l _ hat, hat]
  rw [Int.toNat_natCast, ints_len]
  refine ⟨by omega, _, hg, ?_⟩
  rw [e2, f1, f2, f3, g1, g2, g3, g4]
  clear e2 f1 f2 f3 g1 g2 g3 g4 hg
  have k4 : 240 ≤ rd l at_ → rd l at_ < 248 → ((l.length : Int) < (at_ : Int) + 4 → R (oneT (0, 0)) []) ∧ (¬ (l.length : Int) < (at_ : Int) + 4 → ref02_one_L0 R (ints .u8 l) at_ (rd l at_ - 240) 4 1) := by
    intro c1 c2
    refine ⟨fun h => ?_, fun h => one_four l hl hlen at_ _ (by omega) (by omega) (by omega) _ ?_⟩
    · refine cast (congrArg (fun p => R (oneT p) []) ?_) hR
      unfold chN
      repeat' split
      all_goals first | rfl | (exfalso; omega)
    · refine cast (congrArg (fun p => R (oneT p) []) ?_) hR
      unfold oneS chN
      rw [oneZ_eq]
      repeat' split
      all_goals first | rfl | (exfalso; omega)
  have k3 : 224 ≤ rd l at_ → rd l at_ < 240 → ((l.length : Int) < (at_ : Int) + 3 → R (oneT (0, 0)) []) ∧ (¬ (l.length : Int) < (at_ : Int) + 3 → ref02_one_L0 R (ints .u8 l) at_ (rd l at_ - 224) 3 1) := by
    intro c1 c2
    refine ⟨fun h => ?_, fun h => one_three l hl hlen at_ _ (by omega) (by omega) (by omega) _ ?_⟩
    · refine cast (congrArg (fun p => R (oneT p) []) ?_) hR
      unfold chN
      repeat' split
      all_goals first | rfl | (exfalso; omega)
    · refine cast (congrArg (fun p => R (oneT p) []) ?_) hR
      unfold oneS chN
      rw [oneZ_eq]
      repeat' split
      all_goals first | rfl | (exfalso; omega)
  have k2 : 192 ≤ rd l at_ → rd l at_ < 224 → ((l.length : Int) < (at_ : Int) + 2 → R (oneT (0, 0)) []) ∧ (¬ (l.length : Int) < (at_ : Int) + 2 → ref02_one_L0 R (ints .u8 l) at_ (rd l at_ - 192) 2 1) := by
    intro c1 c2
    refine ⟨fun h => ?_, fun h => one_two l hl hlen at_ _ (by omega) (by omega) (by omega) _ ?_⟩
    · refine cast (congrArg (fun p => R (oneT p) []) ?_) hR
      unfold chN
      repeat' split
      all_goals first | rfl | (exfalso; omega)
    · refine cast (congrArg (fun p => R (oneT p) []) ?_) hR
      unfold oneS chN
      rw [oneZ_eq]
      repeat' split
      all_goals first | rfl | (exfalso; omega)
  have k1 : rd l at_ < 128 → ref02_one_L0 R (ints .u8 l) at_ (rd l at_) 1 1 := by
    intro c1
    refine one_end _ _ _ _ _ (by omega) _ (cast (congrArg (fun p => R (oneT p) []) ?_) hR)
    unfold chN
    rw [oneZ_eq]
    repeat' split
    all_goals first | rfl | (exfalso; omega)
  have k0 : ¬ rd l at_ < 128 → ¬ (192 ≤ rd l at_ ∧ rd l at_ < 248) → R (oneT (0, 0)) [] := by
    intro c1 c2
    refine cast (congrArg (fun p => R (oneT p) []) ?_) hR
    unfold chN
    repeat' split
    all_goals first | rfl | (exfalso; omega)
  repeat' first | (refine And.intro ?_ ?_) | (intro h; first | (have := of_decide_eq_true h; clear h; try (exfalso; omega)) | (have := of_decide_eq_false h; clear h; try (exfalso; omega)))
  all_goals first | exact (k4 (by omega) (by omega)).2 (by omega) | exact (k3 (by omega) (by omega)).2 (by omega) | exact (k2 (by omega) (by omega)).2 (by omega) | exact k1 (by omega) | exact k0 (by omega) (by omega) | exact (k4 (by omega) (by omega)).1 (by omega) | exact (k3 (by omega) (by omega)).1 (by omega) | exact (k2 (by omega) (by omega)).1 (by omega)
theorem one_ok (l : List Int) (hl : Bytes l) (hlen : l.length ≤ 140737488355328) (at_ : Nat) (hat : at_ < l.length) : Fn Tryd.prog 25 [fzS .u8 l, fzI .i64 at_] [] (oneT (ch1 (l.drop at_))) [] := by
  refine ref02_one_fn _ _ (one_head l hl hlen at_ hat _ ⟨?_, rfl⟩)
  unfold ch1
  rw [rd_dropN, rd_dropN, rd_dropN, rd_dropN, List.length_drop, show ((l.length - at_ : Nat) : Int) = (l.length : Int) - at_ by omega]; rfl
def chL (l : List Int) : List Int := if (chars l).2 = -1 then (chars l).1 else []
end Go.Proofs.YtejefchehdifhaaDoor.Ev
end
section
set_option linter.unusedVariables false
set_option linter.unusedSimpArgs false
namespace Go.Proofs.YtejefchehdifhaaDoor.Ev
open Go Go.RowKit
def blankB (c : Int) : Bool := decide (c = 9 ∨ c = 10 ∨ c = 13 ∨ c = 32)
def endsB (c : Int) : Bool := decide ((c = 9 ∨ c = 10 ∨ c = 13 ∨ c = 32) ∨ c = 40 ∨ c = 41 ∨ c = 59 ∨ c = 34 ∨ c = 39 ∨ c = 96 ∨ c = 44)
theorem uBlank_ok (c : Int) : Fn Tryd.prog 35 [fzI .i64 c] [] (fzB (blankB c)) [] := by
  refine utf_Blank_fn _ ?_
  unfold utf_Blank_H blankB
  simp only [beq_t, beq_f]
  refine ⟨fun h => ?_, fun h => ⟨fun h2 => ?_, fun h2 => ⟨fun h3 => ?_, fun h3 => ?_⟩⟩⟩
  · simp [h]
  · simp [h2]
  · simp [h3]
  · simp [h, h2, h3]
    rw [Bool.eq_iff_iff]; simp
theorem IndexByte_fn (s : ByteArray) (c : Int) : Fn Tryd.prog 45 [.one (.fz (.str s)), fzI .u8 c] [] (fzI .i64 (Lib.indexByte s.data.toList c.toNat.toUInt8)) [] :=
  Fn.of_below [.str s, .int .u8 c] rfl rfl fun w hg => (Tryd.strings_IndexByte s c w).mono fun e w' ⟨h1, h2⟩ => ⟨h1, h2 ▸ Below.refl _ _⟩
set_option maxRecDepth 100000 in
theorem ends_tab : ∀ c : Fin 128, (decide (0 ≤ Lib.indexByte (ByteArray.mk #[40, 41, 59, 34, 39, 96, 44]).data.toList (c.val : Nat).toUInt8)) = decide ((c.val : Int) = 40 ∨ (c.val : Int) = 41 ∨ (c.val : Int) = 59 ∨ (c.val : Int) = 34 ∨ (c.val : Int) = 39 ∨ (c.val : Int) = 96 ∨ (c.val : Int) = 44) := by decide
theorem uEnds_ok (c : Int) : Fn Tryd.prog 31 [fzI .i64 c] [] (fzB (endsB c)) [] := by
  refine utf_Ends_fn _ ?_
  unfold utf_Ends_H endsB
  refine ⟨_, uBlank_ok c, ?_⟩
  unfold blankB
  simp only [dec_t, dec_f]
  refine ⟨fun h => ?_, fun h => ⟨fun h2 => ⟨fun h3 => ?_, fun h3 => ?_⟩, fun h2 => ?_⟩⟩
  · simp [h]
  · rw [wu8 (by omega) (by omega)]
    refine ⟨_, IndexByte_fn _ c, ?_⟩
    have := ends_tab ⟨c.toNat, by omega⟩
    simp only at this
    rw [this, show ((c.toNat : Nat) : Int) = c by omega]
    simp [h]
  · have : ¬ (c = 40 ∨ c = 41 ∨ c = 59 ∨ c = 34 ∨ c = 39 ∨ c = 96 ∨ c = 44) := by omega
    simp [h, this]
  · have : ¬ (c = 40 ∨ c = 41 ∨ c = 59 ∨ c = 34 ∨ c = 39 ∨ c = 96 ∨ c = 44) := by omega
    simp [h, this]
theorem ixEnds_loop (xs : List Int) (hl : xs.length ≤ 1000000000) :
    ∀ (d j : Nat), j + d = xs.length → (xs.take j).any endsB = false → ∃ n : Int, (decide (0 ≤ n) = xs.any endsB) ∧ ∀ R : TV → List Ob → Prop, R (fzI .i64 n) [] → ixEnds_L0 R (ints .i64 xs) j
  | 0, j, hj, h => by
    refine ⟨-1, ?_, fun R hR => ixEnds_l0 ?_⟩
    · rw [List.take_of_length_le (by omega)] at h
      rw [h]; simp
    · unfold ixEnds_R0
      rw [ints_len, dec_t, dec_f]
      exact ⟨fun h => by omega, fun _ => hR⟩
  | d + 1, j, hj, h => by
    have hF := uEnds_ok (rd xs j)
    have hg : (ints .i64 xs)[j]? = some [.int .i64 (rd xs j)] := by simp [ints, rd_at xs j (by omega), show j < xs.length by omega]
    by_cases hpx : endsB (rd xs j) = true
    · refine ⟨j, ?_, fun R hR => ixEnds_l0 ?_⟩
      · have : xs.any endsB = true := List.any_eq_true.2 ⟨_, List.getElem_mem (show j < xs.length by omega), by rw [← rd_at xs j (by omega)]; exact hpx⟩
        rw [this]; simp
      · unfold ixEnds_R0
        rw [ints_len, dec_t, dec_f]
        refine ⟨fun _ => ⟨by omega, _, hg, _, hF, fun _ => hR, fun h => ?_⟩, fun h => by omega⟩
        rw [hpx] at h; cases h
    · obtain ⟨q, h1, h2⟩ := ixEnds_loop xs hl d (j + 1) (by omega) (by
        rw [List.take_succ_eq_append_getElem (by omega), List.any_append, h, ← rd_at xs j (by omega)]
        simpa using hpx)
      refine ⟨q, h1, fun R hR => ixEnds_l0 ?_⟩
      unfold ixEnds_R0
      have e : IntKind.wrap .i64 ((j : Int) + 1) = ((j + 1 : Nat) : Int) := w64 (by omega) (by omega)
      rw [ints_len, dec_t, dec_f, e]
      refine ⟨fun _ => ⟨by omega, _, hg, _, hF, fun h => absurd h hpx, fun _ => h2 R hR⟩, fun h => by omega⟩
theorem anyEnds_ok (xs : List Int) (hl : xs.length ≤ 1000000000) :
    Fn Tryd.prog 30 [fzS .i64 xs, .one (.fz (.fn 31 []))] [] (fzB (xs.any endsB)) [] := by
  obtain ⟨n, h1, h2⟩ := ixEnds_loop xs hl xs.length 0 (by omega) (by simp)
  refine slices_ContainsFunc_int_int_fn _ _ ?_
  unfold slices_ContainsFunc_int_int_H
  exact ⟨n, ixEnds_fn _ (h2 _ ⟨rfl, rfl⟩), by rw [h1], rfl⟩
def digB (T : List Int) (i : Nat) : Bool := decide (i < T.length ∧ 48 ≤ rd T i ∧ rd T i ≤ 57)
theorem tdigit_ok (T : List Int) (hT : Bytes T) (i : Nat) : Fn Tryd.prog 32 [.one (.fz (.str (bytesOf T))), fzI .i64 i] [] (fzB (digB T i)) [] := by
  refine token_digit_fn _ _ ?_
  unfold token_digit_H digB
  rw [size_of, dec_t, dec_f, Int.toNat_natCast]
  refine ⟨fun h => ?_, fun h => ?_⟩
  · have hi : i < T.length := by omega
    obtain ⟨c, hc, hcn⟩ := byte_at hT hi
    refine ⟨by omega, c, hc, ?_⟩
    rw [hcn, dec_t, dec_f]
    refine ⟨fun h2 => ⟨by omega, c, hc, ?_⟩, fun h2 => ?_⟩
    · rw [hcn]; simp [hi, h2]
    · have : ¬ (i < T.length ∧ 48 ≤ rd T i ∧ rd T i ≤ 57) := by omega
      simp [this]
  · have : ¬ (i < T.length ∧ 48 ≤ rd T i ∧ rd T i ≤ 57) := by omega
    simp [this]
theorem hasPref (T : List Int) (hT : Bytes T) (c : Nat) (hc : c < 256) : Lib.hasPrefix (bytesOf T).data.toList [UInt8.ofNat c] = decide (T.head? = some (c : Int)) := by
  rw [data_of]
  cases T with
  | nil => simp [Lib.hasPrefix]
  | cons x T =>
    have hx := hT x List.mem_cons_self
    have h3 := u8_back hx.1 hx.2
    have hcc : (UInt8.ofNat c).toNat = c := by rw [UInt8.toNat_ofNat']; omega
    unfold Lib.hasPrefix
    rw [Bool.eq_iff_iff]
    simp [← UInt8.toNat_inj]
    omega
theorem HasPrefix_fn (s p : ByteArray) : Fn Tryd.prog 29 [.one (.fz (.str s)), .one (.fz (.str p))] [] (fzB (Lib.hasPrefix s.data.toList p.data.toList)) [] :=
  Fn.of_below [.str s, .str p] rfl rfl fun w hg => (Tryd.strings_HasPrefix s p w).mono fun e w' ⟨h1, h2⟩ => ⟨h1, h2 ▸ Below.refl _ _⟩
def symP (T : List Int) : Prop := T ≠ [] ∧ T ≠ [46] ∧ T.length ≤ 64 ∧ (chars T).2 = -1 ∧ (chars T).1.any endsB = false ∧ rd T 0 ≠ 35 ∧ digB T 0 = false ∧ ¬ ((rd T 0 = 43 ∨ rd T 0 = 45) ∧ digB T 1 = true)
def trueP (T : List Int) : Prop := T = [35, 116] ∨ T = [35, 116, 114, 117, 101]
def falseP (T : List Int) : Prop := T = [35, 102] ∨ T = [35, 102, 97, 108, 115, 101]
instance (T : List Int) : Decidable (symP T) := by unfold symP; infer_instance
instance (T : List Int) : Decidable (trueP T) := by unfold trueP; infer_instance
instance (T : List Int) : Decidable (falseP T) := by unfold falseP; infer_instance
abbrev atT (k : Int) (t : ByteArray) (n : Bool) (l : List Int) (b : Bool) : TV := .tup [(true, [.fz (.int .i64 k), .fz (.str t), .fz (.bool n), .fz (.sl 1 (ints .u32 l)), .fz (.sl 6 ([] : List (List FV))), .fz (.int .i64 0)]), (false, [.fz (.bool b)])]
def atomK (T : List Int) : Int := if trueP T then 8 else if falseP T then 9 else if ptB (pRest T) = true then 7 else if symP T then 4 else 0
def atomS (T : List Int) : List Int := if atomK T = 4 then T else []
def atomN (T : List Int) : Bool := if atomK T = 7 then ptS (pNeg T) (pRest T) else false
def atomL (T : List Int) : List Int := if atomK T = 7 then ptL (pRest T) else []
abbrev atomT (T : List Int) : TV := atT (atomK T) (bytesOf (atomS T)) (atomN T) (atomL T) (decide (atomK T ≠ 0))
theorem atomT_8 {T : List Int} (h : trueP T) : atomT T = atT 8 (ByteArray.mk #[]) false [] true := by
  have : atomK T = 8 := if_pos h
  unfold atomT atomS atomN atomL; rw [this]; rfl
theorem atomT_9 {T : List Int} (h : falseP T) : atomT T = atT 9 (ByteArray.mk #[]) false [] true := by
  have h1 : ¬ trueP T := by
    unfold trueP falseP at *
    rcases h with rfl | rfl <;> simp
  have : atomK T = 9 := by unfold atomK; rw [if_neg h1, if_pos h]
  unfold atomT atomS atomN atomL; rw [this]; rfl
theorem atomT_7 {T : List Int} (h1 : ¬ trueP T) (h2 : ¬ falseP T) (h3 : ptB (pRest T) = true) : atomT T = atT 7 (ByteArray.mk #[]) (ptS (pNeg T) (pRest T)) (ptL (pRest T)) true := by
  have : atomK T = 7 := by unfold atomK; rw [if_neg h1, if_neg h2, if_pos h3]
  unfold atomT atomS atomN atomL; rw [this]; rfl
theorem atomT_4 {T : List Int} (h1 : ¬ trueP T) (h2 : ¬ falseP T) (h3 : ptB (pRest T) = false) (h4 : symP T) : atomT T = atT 4 (bytesOf T) false [] true := by
  have : atomK T = 4 := by unfold atomK; rw [if_neg h1, if_neg h2, if_neg (by rw [h3]; simp), if_pos h4]
  unfold atomT atomS atomN atomL; rw [this]; rfl
theorem atomT_0 {T : List Int} (h1 : ¬ trueP T) (h2 : ¬ falseP T) (h3 : ptB (pRest T) = false) (h4 : ¬ symP T) : atomT T = atT 0 (ByteArray.mk #[]) false [] false := by
  have : atomK T = 0 := by unfold atomK; rw [if_neg h1, if_neg h2, if_neg (by rw [h3]; simp), if_neg h4]
  unfold atomT atomS atomN atomL; rw [this]; rfl
theorem decE_small {T : List Int} (h : ¬ 64 < T.length) : (decE T ≠ 0 ↔ (chars T).2 ≠ -1) ∧ ((chars T).2 = -1 → decL T = (chars T).1) := by
  unfold decE decL
  have hn : ¬ 65536 < T.length := by omega
  simp only [if_neg hn]
  by_cases h2 : (chars T).2 = -1
  · simp [h2]
  · simp [h2]
theorem chs_len : ∀ (f at_ : Nat) (l acc : List Int), (chs f l at_ acc).1.length ≤ acc.length + f
  | 0, at_, l, acc => by simp [chs]
  | f + 1, at_, l, acc => by
    unfold chs
    split
    · simp only; omega
    · split
      · simp
      · have := chs_len f (at_ + (ch1 (l.drop at_)).2.toNat) l (acc ++ [(ch1 (l.drop at_)).1])
        simp only [List.length_append, List.length_singleton] at this
        omega
theorem chars_len (l : List Int) : (chars l).1.length ≤ l.length + 1 := by
  have := chs_len (l.length + 1) 0 l []
  unfold chars
  simpa using this
end Go.Proofs.YtejefchehdifhaaDoor.Ev
end
section
set_option linter.unusedVariables false
set_option linter.unusedSimpArgs false
namespace Go.Proofs.YtejefchehdifhaaDoor.Ev
open Go Go.RowKit
theorem atom_eqs {T : List Int} (hT : Bytes T) :
    ((ByteArray.toList (bytesOf T)) == (ByteArray.toList (ByteArray.mk #[35, 116]))) = decide (T = [35, 116]) ∧ ((ByteArray.toList (bytesOf T)) == (ByteArray.toList (ByteArray.mk #[35, 116, 114, 117, 101]))) = decide (T = [35, 116, 114, 117, 101]) ∧
    ((ByteArray.toList (bytesOf T)) == (ByteArray.toList (ByteArray.mk #[35, 102]))) = decide (T = [35, 102]) ∧ ((ByteArray.toList (bytesOf T)) == (ByteArray.toList (ByteArray.mk #[35, 102, 97, 108, 115, 101]))) = decide (T = [35, 102, 97, 108, 115, 101]) ∧
    ((ByteArray.toList (bytesOf T)) == (ByteArray.toList (ByteArray.mk #[]))) = decide (T = []) ∧ ((ByteArray.toList (bytesOf T)) == (ByteArray.toList (ByteArray.mk #[46]))) = decide (T = [46]) := by
  have b : ∀ l : List Int, (∀ x ∈ l, 0 ≤ x ∧ x < 256) → Bytes l := fun l h => h
  refine ⟨eq_bytes (m := [35, 116]) hT (b _ (by decide)), eq_bytes (m := [35, 116, 114, 117, 101]) hT (b _ (by decide)), eq_bytes (m := [35, 102]) hT (b _ (by decide)), eq_bytes (m := [35, 102, 97, 108, 115, 101]) hT (b _ (by decide)), eq_bytes (m := []) hT (b _ (by decide)), eq_bytes (m := [46]) hT (b _ (by decide))⟩
theorem byte0 {T : List Int} (hT : Bytes T) (hne : T ≠ []) : ∃ c : UInt8, (ByteArray.data (bytesOf T))[Int.toNat 0]? = some c ∧ ((c.toNat : Nat) : Int) = rd T 0 :=
  byte_at hT (List.length_pos_iff.2 hne)
theorem head_rd {T : List Int} (hne : T ≠ []) (c : Int) : (T.head? = some c) ↔ rd T 0 = c := by
  cases T with
  | nil => exact absurd rfl hne
  | cons x T => simp [rd]
set_option maxHeartbeats 1000000 in
theorem tAtom_ok (T : List Int) (hT : Bytes T) (hlen : T.length ≤ 16777216) : Fn Tryd.prog 16 [.one (.fz (.str (bytesOf T)))] [] (atomT T) [] := by
  refine token_Atom_fn _ ?_
  obtain ⟨R, hR, hRe⟩ : ∃ R : TV → List Ob → Prop, R (atomT T) [] ∧ (fun r' h' => r' = atomT T ∧ h' = []) = R := ⟨_, ⟨rfl, rfl⟩, rfl⟩
  rw [hRe]
  clear hRe
  unfold token_Atom_H
  obtain ⟨e1, e2, e3, e4, e5, e6⟩ := atom_eqs hT
  rw [map_bs, bs_of hT, e1, e2, e3, e4, e5, e6, size_of]
  clear e1 e2 e3 e4 e5 e6
  refine ⟨fun h => ?_, fun h1 => ⟨fun h => ?_, fun h2 => ⟨fun h => ?_, fun h3 => ⟨fun h => ?_, fun h4 => ?_⟩⟩⟩⟩
  · rw [atomT_8 (.inl (of_decide_eq_true h))] at hR; exact hR
  · rw [atomT_8 (.inr (of_decide_eq_true h))] at hR; exact hR
  · rw [atomT_9 (.inl (of_decide_eq_true h))] at hR; exact hR
  · rw [atomT_9 (.inr (of_decide_eq_true h))] at hR; exact hR
  have g1 : ¬ trueP T := fun h => h.elim (of_decide_eq_false h1) (of_decide_eq_false h2)
  have g2 : ¬ falseP T := fun h => h.elim (of_decide_eq_false h3) (of_decide_eq_false h4)
  refine ⟨_, _, _, parse_ok T hT (by omega), fun h => ?_, fun h5 => ?_⟩
  · rw [atomT_7 g1 g2 h] at hR; exact hR
  have hS : symP T → R (atT 4 (bytesOf T) false [] true) [] := fun h => by rw [atomT_4 g1 g2 h5 h] at hR; exact hR
  have hN : ¬ symP T → R (atT 0 (ByteArray.mk #[]) false [] false) [] := fun h => by rw [atomT_0 g1 g2 h5 h] at hR; exact hR
  clear hR
  refine ⟨_, _, _, utfDecode_ok T hT, ?_⟩
  have p1 := HasPrefix_fn (bytesOf T) (ByteArray.mk #[43])
  have p2 := HasPrefix_fn (bytesOf T) (ByteArray.mk #[45])
  rw [show (ByteArray.mk #[43]).data.toList = [UInt8.ofNat 43] from rfl, hasPref T hT 43 (by omega)] at p1
  rw [show (ByteArray.mk #[45]).data.toList = [UInt8.ofNat 45] from rfl, hasPref T hT 45 (by omega)] at p2
  have rest : ∀ (sg : Bool), (T ≠ [] → (sg = true ↔ (rd T 0 = 43 ∨ rd T 0 = 45))) →
      (decide (T = []) = true → R (atT 0 (ByteArray.mk #[]) false [] false) []) ∧ (decide (T = []) = false →
      (decide (T = [46]) = true → R (atT 0 (ByteArray.mk #[]) false [] false) []) ∧ (decide (T = [46]) = false →
      (decide ((64 : Int) < ((T.length : Nat) : Int)) = true → R (atT 0 (ByteArray.mk #[]) false [] false) []) ∧ (decide ((64 : Int) < ((T.length : Nat) : Int)) = false →
      ((decE T != 0) = true → R (atT 0 (ByteArray.mk #[]) false [] false) []) ∧ ((decE T != 0) = false →
      ∃ b17 : Bool, Fn Tryd.prog 30 [fzS .i64 (decL T), .one (.fz (.fn 31 []))] [] (fzB b17) [] ∧
      (b17 = true → R (atT 0 (ByteArray.mk #[]) false [] false) []) ∧ (b17 = false → (0 : Int) ≤ 0 ∧ ∃ c2 : UInt8, (ByteArray.data (bytesOf T))[Int.toNat 0]? = some c2 ∧
      (((((UInt8.toNat c2) : Nat) : Int) == 35) = true → R (atT 0 (ByteArray.mk #[]) false [] false) []) ∧ (((((UInt8.toNat c2) : Nat) : Int) == 35) = false →
      ∃ b18 : Bool, Fn Tryd.prog 32 [.one (.fz (.str (bytesOf T))), fzI .i64 0] [] (fzB b18) [] ∧
      (b18 = true → R (atT 0 (ByteArray.mk #[]) false [] false) []) ∧ (b18 = false →
      (sg = true → ∃ b19 : Bool, Fn Tryd.prog 32 [.one (.fz (.str (bytesOf T))), fzI .i64 1] [] (fzB b19) [] ∧ (b19 = true → R (atT 0 (ByteArray.mk #[]) false [] false) []) ∧ (b19 = false → R (atT 4 (bytesOf T) false [] true) [])) ∧
      (sg = false → R (atT 4 (bytesOf T) false [] true) [])))))))) := by
    intro sg hsg
    refine ⟨fun h => hN fun hs => hs.1 (of_decide_eq_true h), fun h => ?_⟩
    have hne : T ≠ [] := of_decide_eq_false h
    refine ⟨fun h => hN fun hs => hs.2.1 (of_decide_eq_true h), fun h6 => ⟨fun h => hN fun hs => ?_, fun h => ?_⟩⟩
    · have := of_decide_eq_true h
      have := hs.2.2.1
      omega
    have hl : ¬ 64 < T.length := by have := of_decide_eq_false h; omega
    obtain ⟨d1, d2⟩ := decE_small hl
    rw [bne_t, bne_f]
    refine ⟨fun h => hN fun hs => (d1.1 h) hs.2.2.2.1, fun h => ?_⟩
    have hc : (chars T).2 = -1 := by
      by_cases hc : (chars T).2 = -1
      · exact hc
      · exact absurd h (d1.2 hc)
    have hcl := chars_len T
    rw [d2 hc]
    refine ⟨_, anyEnds_ok _ (by omega), fun h => hN fun hs => ?_, fun h7 => ⟨by omega, ?_⟩⟩
    · have := hs.2.2.2.2.1
      rw [h] at this; cases this
    obtain ⟨c, hcc, hcn⟩ := byte0 hT hne
    refine ⟨c, hcc, ?_⟩
    rw [hcn, beq_t, beq_f]
    refine ⟨fun h => hN fun hs => hs.2.2.2.2.2.1 h, fun h8 => ⟨_, tdigit_ok T hT 0, fun h => hN fun hs => ?_, fun h9 => ⟨fun h => ⟨_, tdigit_ok T hT 1, fun h2 => hN fun hs => ?_, fun h2 => hS ?_⟩, fun h => hS ?_⟩⟩⟩
    · have := hs.2.2.2.2.2.2.1
      rw [h] at this; cases this
    · exact hs.2.2.2.2.2.2.2 ⟨(hsg hne).1 h, h2⟩
    · exact ⟨hne, of_decide_eq_false h6, by omega, hc, h7, h8, h9, fun hx => by rw [hx.2] at h2; cases h2⟩
    · exact ⟨hne, of_decide_eq_false h6, by omega, hc, h7, h8, h9, fun hx => by rw [(hsg hne).2 hx.1] at h; cases h⟩
  refine ⟨_, p1, fun h => ?_, fun h => ⟨_, p2, ?_⟩⟩
  · obtain ⟨r1, r2⟩ := rest true (fun hne => ⟨fun _ => .inl ((head_rd hne _).1 (of_decide_eq_true h)), fun _ => rfl⟩)
    refine ⟨r1, fun k1 => ⟨(r2 k1).1, fun k2 => ⟨((r2 k1).2 k2).1, fun k3 => ⟨(((r2 k1).2 k2).2 k3).1, fun k4 => ?_⟩⟩⟩⟩
    obtain ⟨b, q1, q2, q3⟩ := (((r2 k1).2 k2).2 k3).2 k4
    refine ⟨b, q1, q2, fun k5 => ?_⟩
    obtain ⟨q4, c, q5, q6, q7⟩ := q3 k5
    refine ⟨q4, c, q5, q6, fun k6 => ?_⟩
    obtain ⟨b, q8, q9, q10⟩ := q7 k6
    exact ⟨b, q8, q9, fun k7 => (q10 k7).1 rfl⟩
  · have hs : ∀ hne : T ≠ [], (decide (T.head? = some ((45 : Nat) : Int)) = true ↔ (rd T 0 = 43 ∨ rd T 0 = 45)) := fun hne => by
      rw [decide_eq_true_eq, head_rd hne]
      have := of_decide_eq_false h
      rw [head_rd hne] at this
      omega
    exact rest _ hs
theorem drop_rd' (l : List Int) (j : Nat) (h : j < l.length) : l.drop j = rd l j :: l.drop (j + 1) := by
  rw [rd_at l j h]; exact List.drop_eq_getElem_cons h
theorem chL_eq (T : List Int) (h : (chars T).2 = -1) : chL T = (chars T).1 := if_pos h
end Go.Proofs.YtejefchehdifhaaDoor.Ev
end
section
set_option linter.unusedVariables false
set_option maxRecDepth 100000
namespace Go.Proofs.YtejefchehdifhaaDoor.Ev
open Go
def unicode_utf8_AppendRune1_lv : List Nat → Keep := lvOf []
def unicode_utf8_AppendRune1_H (R : TV → List Ob → Prop) (rn : Int) (o : List (List FV)) : Prop :=
  ((((decide ((IntKind.wrap .u32 rn) ≤ 127)) = true) → (((((List.length o) + (List.length [[(FV.int .u8 (IntKind.wrap .u8 rn))]])) * 1) ≤ 220000000000000) ∧ (R (TV.one (AV.ofl 1 1)) [Ob.no, (Ob.f 0 1 (o ++ [[(FV.int .u8 (IntKind.wrap .u8 rn))]]))]))) ∧ (((decide ((IntKind.wrap .u32 rn) ≤ 127)) = false) → (∃ es1 : List (List FV), ((Fn Tryd.prog 86 [(TV.one (AV.ofl 1 0)), (TV.one (AV.fz (FV.int .i32 rn)))] [(Ob.f 0 1 o)] (TV.one (AV.ofl 1 1)) [Ob.no, (Ob.f 0 1 es1)]) ∧ (R (TV.one (AV.ofl 1 1)) [Ob.no, (Ob.f 0 1 es1)])))))
theorem unicode_utf8_AppendRune1_fn (rn : Int) (o : List (List FV)) {r : TV} {h : List Ob} (H : unicode_utf8_AppendRune1_H (fun r' h' => r' = r ∧ Wk h' h) rn o) : Fn Tryd.prog 75 [(TV.one (AV.ofl 1 0)), (TV.one (AV.fz (FV.int .i32 rn)))] [(Ob.f 0 1 o)] r h :=
  Fn.by_trW (M := (modeOf [] [(86, [(Sig.mk 1 [(false, [(AT.a (AV.ofl 1 1))])] [OT.no, (OT.f 0 1)] 1)])])) (lv := unicode_utf8_AppendRune1_lv) (own := (some 1)) (F := Tryd.f75) (by kernel_rfl) (by kernel_rfl) (by first | decide | simp) (fun _ _ h => h) (by kernel_rfl) H
def unicode_utf8_appendRuneNonASCII1_lv : List Nat → Keep := lvOf []
def unicode_utf8_appendRuneNonASCII1_H (R : TV → List Ob → Prop) (rn : Int) (o : List (List FV)) : Prop :=
  ((((decide ((IntKind.wrap .u32 rn) ≤ 2047)) = true) → (((0 : Int) ≤ 6) ∧ (((((List.length o) + (List.length [[(FV.int .u8 (IntKind.wrap .u8 (((BitVec.toNat ((BitVec.ofInt 8 192) ||| (BitVec.ofInt 8 (IntKind.wrap .u8 (Int.fdiv rn (2 ^ (min (Int.toNat 6) 32))))))) : Nat) : Int)))], [(FV.int .u8 (IntKind.wrap .u8 (((BitVec.toNat ((BitVec.ofInt 8 128) ||| (BitVec.ofInt 8 (IntKind.wrap .u8 (((BitVec.toNat ((BitVec.ofInt 8 (IntKind.wrap .u8 rn)) &&& (BitVec.ofInt 8 63))) : Nat) : Int))))) : Nat) : Int)))]])) * 1) ≤ 220000000000000) ∧ (R (TV.one (AV.ofl 1 1)) [Ob.no, (Ob.f 0 1 (o ++ [[(FV.int .u8 (IntKind.wrap .u8 (((BitVec.toNat ((BitVec.ofInt 8 192) ||| (BitVec.ofInt 8 (IntKind.wrap .u8 (Int.fdiv rn (2 ^ (min (Int.toNat 6) 32))))))) : Nat) : Int)))], [(FV.int .u8 (IntKind.wrap .u8 (((BitVec.toNat ((BitVec.ofInt 8 128) ||| (BitVec.ofInt 8 (IntKind.wrap .u8 (((BitVec.toNat ((BitVec.ofInt 8 (IntKind.wrap .u8 rn)) &&& (BitVec.ofInt 8 63))) : Nat) : Int))))) : Nat) : Int)))]]))])))) ∧ (((decide ((IntKind.wrap .u32 rn) ≤ 2047)) = false) → ((((decide ((IntKind.wrap .u32 rn) < 55296)) = true) → (((0 : Int) ≤ 12) ∧ (((0 : Int) ≤ 6) ∧ (((((List.length o) + (List.length [[(FV.int .u8 (IntKind.wrap .u8 (((BitVec.toNat ((BitVec.ofInt 8 224) ||| (BitVec.ofInt 8 (IntKind.wrap .u8 (Int.fdiv rn (2 ^ (min (Int.toNat 12) 32))))))) : Nat) : Int)))], [(FV.int .u8 (IntKind.wrap .u8 (((BitVec.toNat ((BitVec.ofInt 8 128) ||| (BitVec.ofInt 8 (IntKind.wrap .u8 (((BitVec.toNat ((BitVec.ofInt 8 (IntKind.wrap .u8 (Int.fdiv rn (2 ^ (min (Int.toNat 6) 32))))) &&& (BitVec.ofInt 8 63))) : Nat) : Int))))) : Nat) : Int)))], [(FV.int .u8 (IntKind.wrap .u8 (((BitVec.toNat ((BitVec.ofInt 8 128) ||| (BitVec.ofInt 8 (IntKind.wrap .u8 (((BitVec.toNat ((BitVec.ofInt 8 (IntKind.wrap .u8 rn)) &&& (BitVec.ofInt 8 63))) : Nat) : Int))))) : Nat) : Int)))]])) * 1) ≤ 220000000000000) ∧ (R (TV.one (AV.ofl 1 1)) [Ob.no, (Ob.f 0 1 (o ++ [[(FV.int .u8 (IntKind.wrap .u8 (((BitVec.toNat ((BitVec.ofInt 8 224) ||| (BitVec.ofInt 8 (IntKind.wrap .u8 (Int.fdiv rn (2 ^ (min (Int.toNat 12) 32))))))) : Nat) : Int)))], [(FV.int .u8 (IntKind.wrap .u8 (((BitVec.toNat ((BitVec.ofInt 8 128) ||| (BitVec.ofInt 8 (IntKind.wrap .u8 (((BitVec.toNat ((BitVec.ofInt 8 (IntKind.wrap .u8 (Int.fdiv rn (2 ^ (min (Int.toNat 6) 32))))) &&& (BitVec.ofInt 8 63))) : Nat) : Int))))) : Nat) : Int)))], [(FV.int .u8 (IntKind.wrap .u8 (((BitVec.toNat ((BitVec.ofInt 8 128) ||| (BitVec.ofInt 8 (IntKind.wrap .u8 (((BitVec.toNat ((BitVec.ofInt 8 (IntKind.wrap .u8 rn)) &&& (BitVec.ofInt 8 63))) : Nat) : Int))))) : Nat) : Int)))]]))]))))) ∧ (((decide ((IntKind.wrap .u32 rn) < 55296)) = false) → ((((decide ((57343 : Int) < (IntKind.wrap .u32 rn))) = true) → ((((decide ((IntKind.wrap .u32 rn) ≤ 65535)) = true) → (((0 : Int) ≤ 12) ∧ (((0 : Int) ≤ 6) ∧ (((((List.length o) + (List.length [[(FV.int .u8 (IntKind.wrap .u8 (((BitVec.toNat ((BitVec.ofInt 8 224) ||| (BitVec.ofInt 8 (IntKind.wrap .u8 (Int.fdiv rn (2 ^ (min (Int.toNat 12) 32))))))) : Nat) : Int)))], [(FV.int .u8 (IntKind.wrap .u8 (((BitVec.toNat ((BitVec.ofInt 8 128) ||| (BitVec.ofInt 8 (IntKind.wrap .u8 (((BitVec.toNat ((BitVec.ofInt 8 (IntKind.wrap .u8 (Int.fdiv rn (2 ^ (min (Int.toNat 6) 32))))) &&& (BitVec.ofInt 8 63))) : Nat) : Int))))) : Nat) : Int)))], [(FV.int .u8 (IntKind.wrap .u8 (((BitVec.toNat ((BitVec.ofInt 8 128) ||| (BitVec.ofInt 8 (IntKind.wrap .u8 (((BitVec.toNat ((BitVec.ofInt 8 (IntKind.wrap .u8 rn)) &&& (BitVec.ofInt 8 63))) : Nat) : Int))))) : Nat) : Int)))]])) * 1) ≤ 220000000000000) ∧ (R (TV.one (AV.ofl 1 1)) [Ob.no, (Ob.f 0 1 (o ++ [[(FV.int .u8 (IntKind.wrap .u8 (((BitVec.toNat ((BitVec.ofInt 8 224) ||| (BitVec.ofInt 8 (IntKind.wrap .u8 (Int.fdiv rn (2 ^ (min (Int.toNat 12) 32))))))) : Nat) : Int)))], [(FV.int .u8 (IntKind.wrap .u8 (((BitVec.toNat ((BitVec.ofInt 8 128) ||| (BitVec.ofInt 8 (IntKind.wrap .u8 (((BitVec.toNat ((BitVec.ofInt 8 (IntKind.wrap .u8 (Int.fdiv rn (2 ^ (min (Int.toNat 6) 32))))) &&& (BitVec.ofInt 8 63))) : Nat) : Int))))) : Nat) : Int)))], [(FV.int .u8 (IntKind.wrap .u8 (((BitVec.toNat ((BitVec.ofInt 8 128) ||| (BitVec.ofInt 8 (IntKind.wrap .u8 (((BitVec.toNat ((BitVec.ofInt 8 (IntKind.wrap .u8 rn)) &&& (BitVec.ofInt 8 63))) : Nat) : Int))))) : Nat) : Int)))]]))]))))) ∧ (((decide ((IntKind.wrap .u32 rn) ≤ 65535)) = false) → ((((decide ((65535 : Int) < (IntKind.wrap .u32 rn))) = true) → ((((decide ((IntKind.wrap .u32 rn) ≤ 1114111)) = true) → (((0 : Int) ≤ 18) ∧ (((0 : Int) ≤ 12) ∧ (((0 : Int) ≤ 6) ∧ (((((List.length o) + (List.length [[(FV.int .u8 (IntKind.wrap .u8 (((BitVec.toNat ((BitVec.ofInt 8 240) ||| (BitVec.ofInt 8 (IntKind.wrap .u8 (Int.fdiv rn (2 ^ (min (Int.toNat 18) 32))))))) : Nat) : Int)))], [(FV.int .u8 (IntKind.wrap .u8 (((BitVec.toNat ((BitVec.ofInt 8 128) ||| (BitVec.ofInt 8 (IntKind.wrap .u8 (((BitVec.toNat ((BitVec.ofInt 8 (IntKind.wrap .u8 (Int.fdiv rn (2 ^ (min (Int.toNat 12) 32))))) &&& (BitVec.ofInt 8 63))) : Nat) : Int))))) : Nat) : Int)))], [(FV.int .u8 (IntKind.wrap .u8 (((BitVec.toNat ((BitVec.ofInt 8 128) ||| (BitVec.ofInt 8 (IntKind.wrap .u8 (((BitVec.toNat ((BitVec.ofInt 8 (IntKind.wrap .u8 (Int.fdiv rn (2 ^ (min (Int.toNat 6) 32))))) &&& (BitVec.ofInt 8 63))) : Nat) : Int))))) : Nat) : Int)))], [(FV.int .u8 (IntKind.wrap .u8 (((BitVec.toNat ((BitVec.ofInt 8 128) ||| (BitVec.ofInt 8 (IntKind.wrap .u8 (((BitVec.toNat ((BitVec.ofInt 8 (IntKind.wrap .u8 rn)) &&& (BitVec.ofInt 8 63))) : Nat) : Int))))) : Nat) : Int)))]])) * 1) ≤ 220000000000000) ∧ (R (TV.one (AV.ofl 1 1)) [Ob.no, (Ob.f 0 1 (o ++ [[(FV.int .u8 (IntKind.wrap .u8 (((BitVec.toNat ((BitVec.ofInt 8 240) ||| (BitVec.ofInt 8 (IntKind.wrap .u8 (Int.fdiv rn (2 ^ (min (Int.toNat 18) 32))))))) : Nat) : Int)))], [(FV.int .u8 (IntKind.wrap .u8 (((BitVec.toNat ((BitVec.ofInt 8 128) ||| (BitVec.ofInt 8 (IntKind.wrap .u8 (((BitVec.toNat ((BitVec.ofInt 8 (IntKind.wrap .u8 (Int.fdiv rn (2 ^ (min (Int.toNat 12) 32))))) &&& (BitVec.ofInt 8 63))) : Nat) : Int))))) : Nat) : Int)))], [(FV.int .u8 (IntKind.wrap .u8 (((BitVec.toNat ((BitVec.ofInt 8 128) ||| (BitVec.ofInt 8 (IntKind.wrap .u8 (((BitVec.toNat ((BitVec.ofInt 8 (IntKind.wrap .u8 (Int.fdiv rn (2 ^ (min (Int.toNat 6) 32))))) &&& (BitVec.ofInt 8 63))) : Nat) : Int))))) : Nat) : Int)))], [(FV.int .u8 (IntKind.wrap .u8 (((BitVec.toNat ((BitVec.ofInt 8 128) ||| (BitVec.ofInt 8 (IntKind.wrap .u8 (((BitVec.toNat ((BitVec.ofInt 8 (IntKind.wrap .u8 rn)) &&& (BitVec.ofInt 8 63))) : Nat) : Int))))) : Nat) : Int)))]]))])))))) ∧ (((decide ((IntKind.wrap .u32 rn) ≤ 1114111)) = false) → (((((List.length o) + (List.length [[(FV.int .u8 239)], [(FV.int .u8 191)], [(FV.int .u8 189)]])) * 1) ≤ 220000000000000) ∧ (R (TV.one (AV.ofl 1 1)) [Ob.no, (Ob.f 0 1 (o ++ [[(FV.int .u8 239)], [(FV.int .u8 191)], [(FV.int .u8 189)]]))]))))) ∧ (((decide ((65535 : Int) < (IntKind.wrap .u32 rn))) = false) → (((((List.length o) + (List.length [[(FV.int .u8 239)], [(FV.int .u8 191)], [(FV.int .u8 189)]])) * 1) ≤ 220000000000000) ∧ (R (TV.one (AV.ofl 1 1)) [Ob.no, (Ob.f 0 1 (o ++ [[(FV.int .u8 239)], [(FV.int .u8 191)], [(FV.int .u8 189)]]))]))))))) ∧ (((decide ((57343 : Int) < (IntKind.wrap .u32 rn))) = false) → ((((decide ((65535 : Int) < (IntKind.wrap .u32 rn))) = true) → ((((decide ((IntKind.wrap .u32 rn) ≤ 1114111)) = true) → (((0 : Int) ≤ 18) ∧ (((0 : Int) ≤ 12) ∧ (((0 : Int) ≤ 6) ∧ (((((List.length o) + (List.length [[(FV.int .u8 (IntKind.wrap .u8 (((BitVec.toNat ((BitVec.ofInt 8 240) ||| (BitVec.ofInt 8 (IntKind.wrap .u8 (Int.fdiv rn (2 ^ (min (Int.toNat 18) 32))))))) : Nat) : Int)))], [(FV.int .u8 (IntKind.wrap .u8 (((BitVec.toNat ((BitVec.ofInt 8 128) ||| (BitVec.ofInt 8 (IntKind.wrap .u8 (((BitVec.toNat ((BitVec.ofInt 8 (IntKind.wrap .u8 (Int.fdiv rn (2 ^ (min (Int.toNat 12) 32))))) &&& (BitVec.ofInt 8 63))) : Nat) : Int))))) : Nat) : Int)))], [(FV.int .u8 (IntKind.wrap .u8 (((BitVec.toNat ((BitVec.ofInt 8 128) ||| (BitVec.ofInt 8 (IntKind.wrap .u8 (((BitVec.toNat ((BitVec.ofInt 8 (IntKind.wrap .u8 (Int.fdiv rn (2 ^ (min (Int.toNat 6) 32))))) &&& (BitVec.ofInt 8 63))) : Nat) : Int))))) : Nat) : Int)))], [(FV.int .u8 (IntKind.wrap .u8 (((BitVec.toNat ((BitVec.ofInt 8 128) ||| (BitVec.ofInt 8 (IntKind.wrap .u8 (((BitVec.toNat ((BitVec.ofInt 8 (IntKind.wrap .u8 rn)) &&& (BitVec.ofInt 8 63))) : Nat) : Int))))) : Nat) : Int)))]])) * 1) ≤ 220000000000000) ∧ (R (TV.one (AV.ofl 1 1)) [Ob.no, (Ob.f 0 1 (o ++ [[(FV.int .u8 (IntKind.wrap .u8 (((BitVec.toNat ((BitVec.ofInt 8 240) ||| (BitVec.ofInt 8 (IntKind.wrap .u8 (Int.fdiv rn (2 ^ (min (Int.toNat 18) 32))))))) : Nat) : Int)))], [(FV.int .u8 (IntKind.wrap .u8 (((BitVec.toNat ((BitVec.ofInt 8 128) ||| (BitVec.ofInt 8 (IntKind.wrap .u8 (((BitVec.toNat ((BitVec.ofInt 8 (IntKind.wrap .u8 (Int.fdiv rn (2 ^ (min (Int.toNat 12) 32))))) &&& (BitVec.ofInt 8 63))) : Nat) : Int))))) : Nat) : Int)))], [(FV.int .u8 (IntKind.wrap .u8 (((BitVec.toNat ((BitVec.ofInt 8 128) ||| (BitVec.ofInt 8 (IntKind.wrap .u8 (((BitVec.toNat ((BitVec.ofInt 8 (IntKind.wrap .u8 (Int.fdiv rn (2 ^ (min (Int.toNat 6) 32))))) &&& (BitVec.ofInt 8 63))) : Nat) : Int))))) : Nat) : Int)))], [(FV.int .u8 (IntKind.wrap .u8 (((BitVec.toNat ((BitVec.ofInt 8 128) ||| (BitVec.ofInt 8 (IntKind.wrap .u8 (((BitVec.toNat ((BitVec.ofInt 8 (IntKind.wrap .u8 rn)) &&& (BitVec.ofInt 8 63))) : Nat) : Int))))) : Nat) : Int)))]]))])))))) ∧ (((decide ((IntKind.wrap .u32 rn) ≤ 1114111)) = false) → (((((List.length o) + (List.length [[(FV.int .u8 239)], [(FV.int .u8 191)], [(FV.int .u8 189)]])) * 1) ≤ 220000000000000) ∧ (R (TV.one (AV.ofl 1 1)) [Ob.no, (Ob.f 0 1 (o ++ [[(FV.int .u8 239)], [(FV.int .u8 191)], [(FV.int .u8 189)]]))]))))) ∧ (((decide ((65535 : Int) < (IntKind.wrap .u32 rn))) = false) → (((((List.length o) + (List.length [[(FV.int .u8 239)], [(FV.int .u8 191)], [(FV.int .u8 189)]])) * 1) ≤ 220000000000000) ∧ (R (TV.one (AV.ofl 1 1)) [Ob.no, (Ob.f 0 1 (o ++ [[(FV.int .u8 239)], [(FV.int .u8 191)], [(FV.int .u8 189)]]))]))))))))))
theorem unicode_utf8_appendRuneNonASCII1_fn (rn : Int) (o : List (List FV)) {r : TV} {h : List Ob} (H : unicode_utf8_appendRuneNonASCII1_H (fun r' h' => r' = r ∧ Wk h' h) rn o) : Fn Tryd.prog 86 [(TV.one (AV.ofl 1 0)), (TV.one (AV.fz (FV.int .i32 rn)))] [(Ob.f 0 1 o)] r h :=
  Fn.by_trW (M := (modeOf [] [])) (lv := unicode_utf8_appendRuneNonASCII1_lv) (own := (some 1)) (F := Tryd.f86) (by kernel_rfl) (by kernel_rfl) (by first | decide | simp) (fun _ _ h => h) (by kernel_rfl) H
def unicode_utf8_ValidRune_lv : List Nat → Keep := lvOf []
def unicode_utf8_ValidRune_H (R : TV → List Ob → Prop) (r_ : Int) : Prop :=
  ((((decide ((0 : Int) ≤ r_)) = true) → ((((decide (r_ < 55296)) = true) → (R (TV.one (AV.fz (FV.bool true))) [])) ∧ (((decide (r_ < 55296)) = false) → ((((decide ((57343 : Int) < r_)) = true) → ((((decide (r_ ≤ 1114111)) = true) → (R (TV.one (AV.fz (FV.bool true))) [])) ∧ (((decide (r_ ≤ 1114111)) = false) → (R (TV.one (AV.fz (FV.bool false))) [])))) ∧ (((decide ((57343 : Int) < r_)) = false) → (R (TV.one (AV.fz (FV.bool false))) [])))))) ∧ (((decide ((0 : Int) ≤ r_)) = false) → ((((decide ((57343 : Int) < r_)) = true) → ((((decide (r_ ≤ 1114111)) = true) → (R (TV.one (AV.fz (FV.bool true))) [])) ∧ (((decide (r_ ≤ 1114111)) = false) → (R (TV.one (AV.fz (FV.bool false))) [])))) ∧ (((decide ((57343 : Int) < r_)) = false) → (R (TV.one (AV.fz (FV.bool false))) [])))))
theorem unicode_utf8_ValidRune_fn (r_ : Int) {r : TV} {h : List Ob} (H : unicode_utf8_ValidRune_H (fun r' h' => r' = r ∧ h' = h) r_) : Fn Tryd.prog 33 [(TV.one (AV.fz (FV.int .i32 r_)))] [] r h :=
  Fn.by_tr (M := (modeOf [] [])) (lv := unicode_utf8_ValidRune_lv) (own := none) (F := Tryd.f33) (by kernel_rfl) (by kernel_rfl) (by first | decide | simp) (fun _ _ h => h) (by kernel_rfl) H
def strings_CutPrefix_lv : List Nat → Keep := lvOf []
def strings_CutPrefix_H (R : TV → List Ob → Prop) (s : ByteArray) (prefix_ : ByteArray) : Prop :=
  (∃ s2 : ByteArray, (∃ b1 : Bool, ((Fn Tryd.prog 87 [(TV.one (AV.fz (FV.str s))), (TV.one (AV.fz (FV.str prefix_)))] [] (TV.tup [(false, [(AV.fz (FV.str s2))]), (false, [(AV.fz (FV.bool b1))])]) []) ∧ (R (TV.tup [(false, [(AV.fz (FV.str s2))]), (false, [(AV.fz (FV.bool b1))])]) []))))
theorem strings_CutPrefix_fn (s : ByteArray) (prefix_ : ByteArray) {r : TV} {h : List Ob} (H : strings_CutPrefix_H (fun r' h' => r' = r ∧ h' = h) s prefix_) : Fn Tryd.prog 77 [(TV.one (AV.fz (FV.str s))), (TV.one (AV.fz (FV.str prefix_)))] [] r h :=
  Fn.by_tr (M := (modeOf [] [])) (lv := strings_CutPrefix_lv) (own := none) (F := Tryd.f77) (by kernel_rfl) (by kernel_rfl) (by first | decide | simp) (fun _ _ h => h) (by kernel_rfl) H
def internal_stringslite_CutPrefix_lv : List Nat → Keep := lvOf []
def internal_stringslite_CutPrefix_H (R : TV → List Ob → Prop) (s : ByteArray) (prefix_ : ByteArray) : Prop :=
  (∃ b1 : Bool, ((Fn Tryd.prog 44 [(TV.one (AV.fz (FV.str s))), (TV.one (AV.fz (FV.str prefix_)))] [] (TV.one (AV.fz (FV.bool b1))) []) ∧ ((((Bool.not b1) = true) → (R (TV.tup [(false, [(AV.fz (FV.str s))]), (false, [(AV.fz (FV.bool false))])]) [])) ∧ (((Bool.not b1) = false) → ((((0 : Int) ≤ (((ByteArray.size prefix_) : Nat) : Int)) ∧ ((((ByteArray.size prefix_) : Nat) : Int) ≤ (((ByteArray.size s) : Nat) : Int))) ∧ (R (TV.tup [(false, [(AV.fz (FV.str (ByteArray.extract s (Int.toNat (((ByteArray.size prefix_) : Nat) : Int)) (ByteArray.size s))))]), (false, [(AV.fz (FV.bool true))])]) []))))))
theorem internal_stringslite_CutPrefix_fn (s : ByteArray) (prefix_ : ByteArray) {r : TV} {h : List Ob} (H : internal_stringslite_CutPrefix_H (fun r' h' => r' = r ∧ h' = h) s prefix_) : Fn Tryd.prog 87 [(TV.one (AV.fz (FV.str s))), (TV.one (AV.fz (FV.str prefix_)))] [] r h :=
  Fn.by_tr (M := (modeOf [] [])) (lv := internal_stringslite_CutPrefix_lv) (own := none) (F := Tryd.f87) (by kernel_rfl) (by kernel_rfl) (by first | decide | simp) (fun _ _ h => h) (by kernel_rfl) H
def internal_stringslite_HasPrefix_lv : List Nat → Keep := lvOf []
def internal_stringslite_HasPrefix_H (R : TV → List Ob → Prop) (s : ByteArray) (prefix_ : ByteArray) : Prop :=
  ((((decide ((((ByteArray.size prefix_) : Nat) : Int) ≤ (((ByteArray.size s) : Nat) : Int))) = true) → ((((0 : Int) ≤ (((ByteArray.size prefix_) : Nat) : Int)) ∧ ((((ByteArray.size prefix_) : Nat) : Int) ≤ (((ByteArray.size s) : Nat) : Int))) ∧ (R (TV.one (AV.fz (FV.bool ((ByteArray.toList (ByteArray.extract s 0 (Int.toNat (((ByteArray.size prefix_) : Nat) : Int)))) == (ByteArray.toList prefix_))))) []))) ∧ (((decide ((((ByteArray.size prefix_) : Nat) : Int) ≤ (((ByteArray.size s) : Nat) : Int))) = false) → (R (TV.one (AV.fz (FV.bool false))) [])))
theorem internal_stringslite_HasPrefix_fn (s : ByteArray) (prefix_ : ByteArray) {r : TV} {h : List Ob} (H : internal_stringslite_HasPrefix_H (fun r' h' => r' = r ∧ h' = h) s prefix_) : Fn Tryd.prog 44 [(TV.one (AV.fz (FV.str s))), (TV.one (AV.fz (FV.str prefix_)))] [] r h :=
  Fn.by_tr (M := (modeOf [] [])) (lv := internal_stringslite_HasPrefix_lv) (own := none) (F := Tryd.f44) (by kernel_rfl) (by kernel_rfl) (by first | decide | simp) (fun _ _ h => h) (by kernel_rfl) H
def internal_strconv_lower_lv : List Nat → Keep := lvOf []
def internal_strconv_lower_H (R : TV → List Ob → Prop) (c : Int) : Prop :=
  (R (TV.one (AV.fz (FV.int .u8 (IntKind.wrap .u8 (((BitVec.toNat ((BitVec.ofInt 8 c) ||| (BitVec.ofInt 8 32))) : Nat) : Int))))) [])
theorem internal_strconv_lower_fn (c : Int) {r : TV} {h : List Ob} (H : internal_strconv_lower_H (fun r' h' => r' = r ∧ h' = h) c) : Fn Tryd.prog 90 [(TV.one (AV.fz (FV.int .u8 c)))] [] r h :=
  Fn.by_tr (M := (modeOf [] [])) (lv := internal_strconv_lower_lv) (own := none) (F := Tryd.f90) (by kernel_rfl) (by kernel_rfl) (by first | decide | simp) (fun _ _ h => h) (by kernel_rfl) H
end Go.Proofs.YtejefchehdifhaaDoor.Ev
end
