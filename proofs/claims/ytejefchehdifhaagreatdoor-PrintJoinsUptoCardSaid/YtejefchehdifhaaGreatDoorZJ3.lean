/-
  Part of a claim: definitions and lemmas that its theorem leans on, packed by wip/tools/pack.py.
-/
import Derived.Test.YtejefchehdifhaaGreatDoorZJ2
import Derived.Test.YtejefchehdifhaaGreatDoorRows
import Derived.JoinedCond
import Derived.LaidLaws
import Derived.LaidMore
import Derived.IntWalk
import Derived.Test.YtejefchehdifhaaGreatDoorProg
import Derived.Laws.Strings
import Derived.Lib.Strings
import Derived.Lib.Slices
import Derived.Lib.Walk
import Derived.Lib.Builder
import Derived.Lib.AppendStr
import Derived.Lib.UnsafeStr
import Derived.WalkKit
import Derived.Laws.Externs
import Derived.Laws.BitsLemmas
import Derived.Shelf.Strings.Builder1
import Derived.Shelf.Strconv.Itoa3
import Derived.Shelf.Strings.Repeat
import Derived.Shelf.Strconv.AtoiAll
import Derived.Shelf.Strings.Prefix
import Derived.Shelf.Strings.SlTrimAscii
import Derived.Shelf.Strings.Trim
import Derived.Shelf.LaysM
import Derived.Shelf.Spec.DecodeRune
import Derived.Shelf.Unicode.DecodeAny
import Derived.Shelf.Spec.TrailingZeros
import Derived.Lib.ItoaNum
import Derived.Lib.AppendIntMem
import Derived.Lib.AtoiAllCases
import Derived.Lib.SlTrimSet
set_option linter.unusedVariables false
set_option linter.unusedSimpArgs false
section
set_option linter.unusedVariables false
set_option linter.unusedSimpArgs false
namespace Go.Proofs.YtejefchehdifhaaGreatDoor.Ev
open Go Go.Proofs Go.RowKit
mutual
def flatD : DataW Unit → Option (List FV)
  | .lit (.int k n) => some [.int k n]
  | .lit (.bool b) => some [.bool b]
  | .lit (.string l) => some [.str ⟨l.toArray⟩]
  | .agg ds => flatDs ds
  | _ => none
def flatDs : List (DataW Unit) → Option (List FV)
  | [] => some []
  | d :: r => match flatD d, flatDs r with
    | some a, some b => some (a ++ b)
    | _, _ => none
end
def contB (P : Program) (g : TypeId → Bool) : List (Nat × TypeId) → Nat → Nat → Bool
  | [], off, n => off == n
  | f :: r, off, n => f.1 == off && g f.2 && contB P g r (off + P.cellsOf f.2) n
def flatTy (P : Program) : Nat → TypeId → Bool
  | 0, _ => false
  | m + 1, t => match P.underlying t with
    | some .bool | some (.int _) | some .string => P.cellsOf t == 1
    | some (.array n e) => contB P (flatTy P m) ((List.range n).map fun i => (i * P.cellsOf e, e)) 0 (P.cellsOf t)
    | some (.struct fs) => contB P (flatTy P m) (fs.toList.map fun f => (f.offset, f.type)) 0 (P.cellsOf t)
    | _ => false
def CellsB (W : World) (B : Nat → Prop) (fs : List FV) (cs : List Value) : Prop := fs.length = cs.length ∧ ∀ (j : Nat) (x : FV) (v : Value), fs[j]? = some x → cs[j]? = some v → RF W B x v
section
variable {P : Program} {W : World} {B : Nat → Prop}
abbrev trodU (P : Program) (W : World) (fuel : Nat) (t : TypeId) (cs : List Value) : Option (DataW Unit × List MemPlace) := DataW.trod (fun _ => ()) P W 0 (fun _ => true) false fuel t cs
theorem flat_pairs {g : TypeId → Bool} {fuel : Nat} (ih : ∀ (t : TypeId) (cs : List Value) (y : DataW Unit × List MemPlace), g t = true → trodU P W fuel t cs = some y → ∃ fs, flatD y.1 = some fs ∧ cs.length = P.cellsOf t ∧ CellsB W B fs cs) :
    ∀ (l : List (Nat × TypeId)) (off : Nat) (cs : List Value) (xs : List (DataW Unit × List MemPlace)), contB P g l off cs.length = true → off ≤ cs.length → (l.mapM fun f => trodU P W fuel f.2 ((cs.drop f.1).take (P.cellsOf f.2))) = some xs →
      ∃ fs : List FV, flatDs (xs.map (·.1)) = some fs ∧ CellsB W B fs (cs.drop off)
  | [], off, cs, xs, hl, ho, hm => by
    have : off = cs.length := by simpa [contB] using hl
    subst this
    cases (by simpa using hm : ([] : List (DataW Unit × List MemPlace)) = xs)
    exact ⟨[], rfl, by simp [CellsB]⟩
  | f :: l, off, cs, xs, hl, ho, hm => by
    simp only [contB, Bool.and_eq_true, beq_iff_eq] at hl
    obtain ⟨⟨hfo, hS⟩, hl⟩ := hl
    rw [List.mapM_cons] at hm
    simp only [Option.bind_eq_bind, Option.bind_eq_some_iff, Option.pure_def, Option.some.injEq] at hm
    obtain ⟨y, hy, ys, hys, rfl⟩ := hm
    obtain ⟨fs, h1, hcl, h2, h3⟩ := ih f.2 _ y hS hy
    rw [hfo] at h2 h3 hcl
    have hle : off + P.cellsOf f.2 ≤ cs.length := by
      rw [List.length_take, List.length_drop] at hcl
      omega
    obtain ⟨parts, g1, g3, g4⟩ := flat_pairs ih l _ cs ys hl hle hys
    refine ⟨fs ++ parts, by simp only [List.map_cons, flatDs, h1, g1], ?_, fun j x v hx hv => ?_⟩
    · rw [List.length_append, h2, g3, hcl, List.length_drop, List.length_drop]
      omega
    · by_cases hj : j < fs.length
      · rw [List.getElem?_append_left hj] at hx
        refine h3 j x v hx ?_
        rw [List.getElem?_take, if_pos (by omega)]
        exact hv
      · rw [List.getElem?_append_right (by omega)] at hx
        refine g4 (j - fs.length) x v hx ?_
        rw [List.getElem?_drop] at hv ⊢
        rw [← hv]
        congr 1
        omega
theorem flat_trod : ∀ (m fuel : Nat) (t : TypeId) (cs : List Value) (y : DataW Unit × List MemPlace), flatTy P m t = true → trodU P W fuel t cs = some y → ∃ fs, flatD y.1 = some fs ∧ cs.length = P.cellsOf t ∧ CellsB W B fs cs
  | 0, fuel, t, cs, y, ht, h => by cases ht
  | m + 1, 0, t, cs, y, ht, h => by simp [trodU, DataW.trod] at h
  | m + 1, fuel + 1, t, cs, y, ht, h => by
    unfold flatTy at ht
    unfold trodU DataW.trod at h
    have one : ∀ (x : FV) (v : Value), RF W B x v → CellsB W B [x] [v] := fun x v hr => ⟨rfl, fun j y u hy hu => by
      cases j with
      | zero => cases hy; cases hu; exact hr
      | succ j => simp at hy⟩
    cases hu : P.underlying t with
    | none => simp [hu] at ht
    | some ds =>
      cases ds with
      | bool =>
        simp only [hu] at h ht
        split at h <;> simp_all
        rename_i b
        rw [← h]
        exact ⟨_, rfl, one _ _ (.bool _)⟩
      | int k =>
        simp only [hu] at h ht
        split at h <;> simp_all
        rename_i k' n _
        obtain ⟨⟨rfl, hwf⟩, rfl⟩ := h
        exact ⟨_, rfl, one _ _ (.int _ _)⟩
      | string =>
        simp only [hu] at h ht
        split at h <;> simp_all
        rename_i s
        obtain ⟨_, rfl⟩ := h
        refine ⟨_, rfl, one _ _ ?_⟩
        have : (⟨s.data.toList.toArray⟩ : ByteArray) = s := by cases s; simp
        simp only [Array.toArray_toList]
        exact .str _
      | array n e =>
        simp only [hu] at h ht
        split at h
        · rename_i hcs
          obtain ⟨xs, hxs, rfl⟩ := Option.map_eq_some_iff.1 h
          rw [← hcs] at ht
          have hm : ((List.range n).map fun i => (i * P.cellsOf e, e)).mapM (fun f : Nat × TypeId => trodU P W fuel f.2 ((cs.drop f.1).take (P.cellsOf f.2))) = some xs := by
            rw [List.mapM_map]; exact hxs
          obtain ⟨fs, g1, g2⟩ := flat_pairs (fun t cs y h1 h2 => flat_trod m fuel t cs y h1 h2) _ 0 cs xs ht (by omega) hm
          exact ⟨fs, g1, hcs, by simpa using g2⟩
        · cases h
      | struct fs0 =>
        simp only [hu] at h ht
        split at h
        · rename_i hcs
          obtain ⟨xs, hxs, rfl⟩ := Option.map_eq_some_iff.1 h
          rw [← hcs] at ht
          have hm : (fs0.toList.map fun f => (f.offset, f.type)).mapM (fun f : Nat × TypeId => trodU P W fuel f.2 ((cs.drop f.1).take (P.cellsOf f.2))) = some xs := by
            rw [List.mapM_map]; exact hxs
          obtain ⟨fs, g1, g2⟩ := flat_pairs (fun t cs y h1 h2 => flat_trod m fuel t cs y h1 h2) _ 0 cs xs ht (by omega) hm
          exact ⟨fs, g1, hcs, by simpa using g2⟩
        · cases h
      | _ => simp [hu] at ht
end
theorem tabAt_flat_of {P : Program} {W : World} {l : List (String × DataW Unit)} (h : laidMet P l W) {n : String} {d : DataW Unit} {fs : List FV} (hd : flatD d = some fs) (hm : (n, d) ∈ l) {g : Nat} {t : TypeId} {m : Nat} (hg : P.globalNamed n = some g) (hty : (P.globals[g]?).map (·.type) = some t)
    (ht : flatTy P m t = true) : TabAt W (fun _ => True) g fs := by
  obtain ⟨ps, hl, _⟩ := h
  obtain ⟨g', t', cs, fuel, p, h1, h2, h3, h4⟩ := laid_mem hl hm
  obtain rfl := Option.some.inj (hg.symm.trans h1)
  obtain rfl := Option.some.inj (hty.symm.trans h2)
  obtain ⟨fs', k1, k2, k3, k4⟩ := flat_trod (B := fun _ => True) m fuel t cs.toList _ ht h4
  obtain rfl := Option.some.inj (hd.symm.trans k1)
  obtain ⟨ty, z, hh⟩ := var_heap h1 h3
  refine ⟨cs, ty, z, hh, by rw [k3, Array.length_toList], fun j f hf => ?_⟩
  have hj : j < cs.size := by rw [← Array.length_toList, ← k3]; exact (List.getElem?_eq_some_iff.1 hf).1
  exact ⟨cs[j], Array.getElem?_eq_getElem hj, k4 j f _ hf (by rw [Array.getElem?_toList]; exact Array.getElem?_eq_getElem hj)⟩
end Go.Proofs.YtejefchehdifhaaGreatDoor.Ev
end
section
set_option linter.unusedVariables false
namespace Go.Proofs.YtejefchehdifhaaGreatDoor.Ev
open Go Go.Proofs Go.ChangeShapes Go.RowKit
mutual
theorem bulkD_le {H : Type} : ∀ d : DataW H, bulkD d ≤ Rows.uptoBulk d
  | .lit l => by cases l <;> simp [bulkD, Rows.uptoBulk]
  | .nil => by simp [bulkD, Rows.uptoBulk]
  | .ptr d => by have := bulkD_le d; simp only [bulkD, Rows.uptoBulk]; omega
  | .slice es sp => by have := bulkDs_le es; have := bulkDs_le sp; simp only [bulkD, Rows.uptoBulk]; omega
  | .agg ps => by have := bulkDs_le ps; simp only [bulkD, Rows.uptoBulk]; omega
  | .iface _ d => by have := bulkD_le d; simp only [bulkD, Rows.uptoBulk]; omega
  | .map _ => by simp only [bulkD, Rows.uptoBulk]; omega
  | .held _ => by simp [bulkD, Rows.uptoBulk]
theorem bulkDs_le {H : Type} : ∀ ds : List (DataW H), bulkDs ds ≤ Rows.uptoBulkAll ds
  | [] => by simp [bulkDs]
  | d :: r => by have := bulkD_le d; have := bulkDs_le r; simp only [bulkDs, Rows.uptoBulkAll]; omega
end
theorem uptoAll_app {H : Type} : ∀ (a b : List (DataW H)), Rows.uptoBulkAll (a ++ b) = Rows.uptoBulkAll a + Rows.uptoBulkAll b
  | [], b => by simp [Rows.uptoBulkAll]
  | d :: a, b => by have := uptoAll_app a b; simp only [List.cons_append, Rows.uptoBulkAll, this]; omega
theorem upto_bulk {H : Type} {ds gs : List (DataW H)} (h : Rows.uptoSmall H (ds ++ gs) = true) : bulkDs ds ≤ 1048576 := by
  unfold Rows.uptoSmall at h
  have h1 := of_decide_eq_true h
  rw [uptoAll_app] at h1
  have := bulkDs_le ds
  omega
section
variable {H : Type} {enc : TypeId × Value → H}
theorem returnsIn_upto {C : Checked} {os : Os} {f : FuncId} {fn : Func} {s : ChangeSpec} {conds : List PathCond} {apart : Bool} {X : World → Array Value → Prop}
    (hX : ∀ (w w' : World) (args : Array Value), w.heap = w'.heap → X w args → X w' args)
    (own : ownKnob C.prog.godebug = none) (started : os.Started) (noInit : C.prog.inits.idxOf? f = none) (hfn : C.prog.funcs[f]? = some fn)
    (witness : ∃ (w : World) (tape : Tape) (i : Input), w.os = os ∧ (w.forCall tape i).Shaped C.prog ∧ i.vars = [] ∧ Input.okWide C.prog (w.forCall tape i) .any w.heap.size f i ∧
      (((Rows.OpenSpec.upto s).pre enc C.prog fn conds apart (w.forCall tape i).memory i.args ∧ X (w.forCall tape i).memory i.args) ∧ sizedMet enc C.prog fn (Rows.OpenSpec.upto s) apart (w.forCall tape i).memory i.args) ∧ ({} : Assume).holds C.prog (lone (Frame.enter C.prog f i.args .normal) [] (w.forCall tape i)))
    (contract : ∀ (W : World) (base : Nat) (args : Array Value) (ds gs : List (DataW H)) (before : List MemPlace),
      (∀ (j : Nat) t v, fn.params[j]? = some t → args[j]? = some v → Value.okWide C.prog W .any base t v) →
      DataW.Whole enc C.prog fn.params.toList s.vars apart W args.toList ds gs before →
      conds.all (PathCond.test C.prog ⟨fn.params.toList, ds, s.plain.varTypes C.prog, gs⟩) = true → bulkDs ds ≤ 1048576 →
      (DataW.weightsEach C.prog (fn.params.toList ++ s.plain.varTypes C.prog) (ds ++ gs)).all (· ≤ reachBytes) = true → X W args →
      Calls C.prog f args W fun e W' => ∃ v, e = .returned v ∧ s.post enc C.prog fn apart true false false W args v W') :
    ReturnsInHanded {} C os f .any (fun w args => ((Rows.OpenSpec.upto s).pre enc C.prog fn conds apart w args ∧ X w args) ∧ sizedMet enc C.prog fn (Rows.OpenSpec.upto s) apart w args) (s.post enc C.prog fn apart true false false) := by
  refine returnsInHanded_of_calls own started noInit witness ?_
  intro w tape i _ _ _ hok hpre hholds
  obtain ⟨_, _, _, fn', hfn', _, _, _, _, hval⟩ := hok
  have e : fn' = fn := Option.some.inj (hfn'.symm.trans hfn)
  subst e
  obtain ⟨⟨⟨ds, gs, before, hw, hc, hk⟩, hx⟩, hz⟩ := hpre
  have hw' := DataW.Whole.of_heap (w' := w.forCall tape i) (by rfl) hw
  have hz' : sizedMet enc C.prog fn' (OpenSpec.ofChange s) apart (w.forCall tape i).memory i.args := hz
  refine (contract (w.forCall tape i) w.heap.size i.args ds gs before hval hw' hc (upto_bulk hk) (hz'.weights hw) (hX _ _ _ (by rfl) hx)).mono fun e W' ⟨v, he, hp⟩ => ?_
  subst he
  exact ChangeSpec.post_blind hp
theorem witness_upto {C : Checked} {os : Os} {f : FuncId} {fn : Func} {s : ChangeSpec} {conds : List PathCond} {apart : Bool} {X : World → Array Value → Prop} (w0 : World) (args : Array Value) (fuel : Nat) (hos : w0.os = os)
    (hsh : (w0.forCall (fun _ _ => 0) ⟨#[], args, []⟩).Shaped C.prog)
    (hok : Input.okWideB C.prog (w0.forCall (fun _ _ => 0) ⟨#[], args, []⟩) f ⟨#[], args, []⟩ = true)
    (hpre : (DataW.whole enc C.prog (w0.forCall (fun _ _ => 0) ⟨#[], args, []⟩).memory fn.params.toList s.vars apart args.toList fuel).any
      (fun x => conds.all (PathCond.test C.prog ⟨fn.params.toList, x.1, s.plain.varTypes C.prog, x.2.1⟩) && Rows.uptoSmall H (x.1 ++ x.2.1)) = true)
    (hsz : s.sizedB enc C.prog fn apart (w0.forCall (fun _ _ => 0) ⟨#[], args, []⟩).memory args fuel = true)
    (hx : X (w0.forCall (fun _ _ => 0) ⟨#[], args, []⟩).memory args) :
    ∃ (w : World) (tape : Tape) (i : Input), w.os = os ∧ (w.forCall tape i).Shaped C.prog ∧ i.vars = [] ∧ Input.okWide C.prog (w.forCall tape i) .any w.heap.size f i ∧
      (((Rows.OpenSpec.upto s).pre enc C.prog fn conds apart (w.forCall tape i).memory i.args ∧ X (w.forCall tape i).memory i.args) ∧ sizedMet enc C.prog fn (Rows.OpenSpec.upto s) apart (w.forCall tape i).memory i.args) ∧ ({} : Assume).holds C.prog (lone (Frame.enter C.prog f i.args .normal) [] (w.forCall tape i)) := by
  obtain ⟨x, hx1, hx2⟩ := (Option.any_eq_true _ _).1 hpre
  rw [Bool.and_eq_true] at hx2
  have hsz' : sizedMet enc C.prog fn (OpenSpec.ofChange s) apart (w0.forCall (fun _ _ => 0) ⟨#[], args, []⟩).memory args := sizedMet_of_sizedB hsz
  exact ⟨w0, fun _ _ => 0, ⟨#[], args, []⟩, hos, hsh, (Input.okWide_of_okWideB (base := 0) hok).1, (Input.okWide_of_okWideB hok).2, ⟨⟨⟨x.1, x.2.1, x.2.2, DataW.Whole_of_whole hx1, hx2.1, hx2.2⟩, hx⟩, hsz'⟩, by
    simp only [Assume.holds]
    exact ⟨by simp, by simp, fun _ => Modest.zero, by simp, by simp⟩⟩
end
end Go.Proofs.YtejefchehdifhaaGreatDoor.Ev
end
section
set_option linter.unusedVariables false
namespace Go.Proofs.YtejefchehdifhaaGreatDoor.Ev
open Go
def rd (l : List Int) (i : Nat) : Int := l.getD i 0
def val (B : Int) : List Int → Int
  | [] => 0
  | x :: l => x + B * val B l
def Lim (B : Int) (l : List Int) : Prop := ∀ x ∈ l, 0 ≤ x ∧ x < B
def Norm (l : List Int) : Prop := ∀ h : l ≠ [], l.getLast h ≠ 0
theorem val_append (B : Int) (l m : List Int) : val B (l ++ m) = val B l + B ^ l.length * val B m := by
  induction l with
  | nil => simp [val]
  | cons x l ih => simp only [List.cons_append, val, ih, List.length_cons, Int.pow_succ]; grind
theorem val_replicate (B : Int) (n : Nat) : val B (List.replicate n 0) = 0 := by
  induction n with
  | zero => rfl
  | succ n ih => simp [List.replicate_succ, val, ih]
theorem val_snoc (B : Int) (l : List Int) (x : Int) : val B (l ++ [x]) = val B l + B ^ l.length * x := by
  rw [val_append]; simp [val]
theorem rd_at (l : List Int) (i : Nat) (h : i < l.length) : rd l i = l[i] := by
  unfold rd; simp [List.getD_eq_getElem?_getD, List.getElem?_eq_getElem h]
theorem rd_out (l : List Int) (i : Nat) (h : l.length ≤ i) : rd l i = 0 := by
  unfold rd; simp [List.getD_eq_getElem?_getD, List.getElem?_eq_none h]
theorem rd_some {l : List Int} {i : Nat} {x : Int} (h : l[i]? = some x) : rd l i = x := by
  unfold rd; simp [List.getD_eq_getElem?_getD, h]
theorem some_rd {l : List Int} {i : Nat} (h : i < l.length) : l[i]? = some (rd l i) := by
  rw [rd_at l i h]; exact List.getElem?_eq_getElem h
theorem Lim.nil (B : Int) : Lim B [] := by intro x hx; simp at hx
theorem Lim.append {B : Int} {l m : List Int} (h : Lim B l) (k : Lim B m) : Lim B (l ++ m) := by
  intro x hx
  rcases List.mem_append.1 hx with h1 | h1
  · exact h x h1
  · exact k x h1
theorem Lim.snoc {B : Int} {l : List Int} {x : Int} (h : Lim B l) (h0 : 0 ≤ x) (h1 : x < B) : Lim B (l ++ [x]) := h.append (by intro y hy; simp at hy; subst hy; exact ⟨h0, h1⟩)
theorem Lim.cons {B : Int} {l : List Int} {x : Int} (h : Lim B l) (h0 : 0 ≤ x) (h1 : x < B) : Lim B (x :: l) := by
  intro y hy
  rcases List.mem_cons.1 hy with rfl | hy
  · exact ⟨h0, h1⟩
  · exact h y hy
theorem Lim.replicate {B : Int} (hB : 0 < B) (n : Nat) : Lim B (List.replicate n 0) := by
  intro x hx
  rw [List.eq_of_mem_replicate hx]
  exact ⟨Int.le_refl _, hB⟩
theorem Lim.left {B : Int} {l m : List Int} (h : Lim B (l ++ m)) : Lim B l := fun x hx => h x (List.mem_append_left _ hx)
theorem Lim.take {B : Int} {l : List Int} (h : Lim B l) (i : Nat) : Lim B (l.take i) := fun x hx => h x (List.mem_of_mem_take hx)
theorem Lim.drop {B : Int} {l : List Int} (h : Lim B l) (i : Nat) : Lim B (l.drop i) := fun x hx => h x (List.mem_of_mem_drop hx)
theorem Lim.rd {B : Int} (hB : 0 < B) {l : List Int} (h : Lim B l) (i : Nat) : 0 ≤ rd l i ∧ rd l i < B := by
  by_cases hi : i < l.length
  · rw [rd_at l i hi]; exact h _ (List.getElem_mem _)
  · rw [rd_out l i (by omega)]; exact ⟨Int.le_refl _, hB⟩
theorem pow_pos' {B : Int} (hB : 0 < B) (n : Nat) : 0 < B ^ n := Int.pow_pos hB
theorem pow_mono {B : Int} (hB : 1 ≤ B) {m n : Nat} (h : m ≤ n) : B ^ m ≤ B ^ n := by
  induction n with
  | zero => have : m = 0 := by omega
            subst this; exact Int.le_refl _
  | succ n ih =>
    by_cases e : m = n + 1
    · subst e; exact Int.le_refl _
    · have h1 := ih (by omega)
      have h2 := pow_pos' (show 0 < B by omega) n
      have h3 : B ^ n * 1 ≤ B ^ n * B := Int.mul_le_mul_of_nonneg_left hB (Int.le_of_lt h2)
      rw [Int.pow_succ]
      omega
theorem val_nonneg {B : Int} (hB : 0 < B) {l : List Int} (h : Lim B l) : 0 ≤ val B l := by
  induction l with
  | nil => exact Int.le_refl _
  | cons x l ih =>
    have h1 := (h x (by simp)).1
    have h2 := ih fun y hy => h y (by simp [hy])
    have h3 := Int.mul_nonneg (Int.le_of_lt hB) h2
    simp only [val]; omega
theorem val_lt {B : Int} (hB : 0 < B) {l : List Int} (h : Lim B l) : val B l < B ^ l.length := by
  induction l with
  | nil => simp [val]
  | cons x l ih =>
    have h1 := (h x (by simp)).2
    have h2 := ih fun y hy => h y (by simp [hy])
    have h3 : B * (val B l + 1) ≤ B * B ^ l.length := Int.mul_le_mul_of_nonneg_left (by omega) (Int.le_of_lt hB)
    simp only [val, List.length_cons, Int.pow_succ]
    have h4 : B ^ l.length * B = B * B ^ l.length := Int.mul_comm _ _
    rw [h4]
    rw [Int.mul_add, Int.mul_one] at h3
    omega
theorem Norm.nil : Norm [] := fun h => absurd rfl h
theorem norm_le {B : Int} (hB : 0 < B) {l : List Int} (h : Lim B l) (hn : Norm l) (h0 : l ≠ []) : B ^ (l.length - 1) ≤ val B l := by
  obtain ⟨m, x, rfl⟩ : ∃ m x, l = m ++ [x] := ⟨l.dropLast, l.getLast h0, (List.dropLast_concat_getLast h0).symm⟩
  have hx := hn h0
  simp at hx
  have hx1 := h x (by simp)
  rw [val_snoc]
  have h1 := val_nonneg hB h.left
  have h2 : B ^ m.length * 1 ≤ B ^ m.length * x := Int.mul_le_mul_of_nonneg_left (by omega) (Int.le_of_lt (pow_pos' hB _))
  simp
  omega
theorem val_zero_iff {B : Int} (hB : 0 < B) {l : List Int} (h : Lim B l) (hn : Norm l) : val B l = 0 ↔ l = [] := by
  constructor
  · intro hv
    rcases Decidable.em (l = []) with h0 | h0
    · exact h0
    · have := norm_le hB h hn h0
      have := pow_pos' hB (l.length - 1)
      omega
  · rintro rfl; rfl
theorem norm_tail {x : Int} {l : List Int} (h : Norm (x :: l)) : Norm l := by
  intro h0
  have := h (by simp)
  rwa [List.getLast_cons h0] at this
theorem uniq {B : Int} (hB : 0 < B) : ∀ {l m : List Int}, Lim B l → Lim B m → Norm l → Norm m → val B l = val B m → l = m
  | [], m, _, hm, _, nm, e => ((val_zero_iff hB hm nm).1 e.symm).symm
  | l, [], hl, _, nl, _, e => (val_zero_iff hB hl nl).1 e
  | x :: l, y :: m, hl, hm, nl, nm, e => by
    simp only [val] at e
    have hx := hl x (by simp)
    have hy := hm y (by simp)
    have e1 : (x + B * val B l) % B = (y + B * val B m) % B := by rw [e]
    rw [Int.add_mul_emod_self_left, Int.add_mul_emod_self_left, Int.emod_eq_of_lt hx.1 hx.2, Int.emod_eq_of_lt hy.1 hy.2] at e1
    subst e1
    have e2 : val B l = val B m := Int.eq_of_mul_eq_mul_left (a := B) (by omega) (by omega)
    rw [uniq hB (fun z hz => hl z (by simp [hz])) (fun z hz => hm z (by simp [hz])) (norm_tail nl) (norm_tail nm) e2]
theorem len_le_iff {B : Int} (hB : 1 < B) {l : List Int} (h : Lim B l) (hn : Norm l) (n : Nat) : l.length ≤ n ↔ val B l < B ^ n := by
  have hB0 : 0 < B := by omega
  constructor
  · intro hl
    have h1 := val_lt hB0 h
    have h2 : B ^ l.length ≤ B ^ n := pow_mono (by omega) hl
    omega
  · intro hv
    apply Decidable.byContradiction
    intro hc
    have h0 : l ≠ [] := by rintro rfl; simp at hc
    have h1 := norm_le hB0 h hn h0
    have h2 : B ^ n ≤ B ^ (l.length - 1) := pow_mono (by omega) (by omega)
    omega
theorem norm_of_rd {l : List Int} (h : 0 < l.length → rd l (l.length - 1) ≠ 0) : Norm l := by
  intro h0
  have hl : 0 < l.length := List.length_pos_iff.2 h0
  have h1 := h hl
  rw [rd_at l _ (by omega)] at h1
  rw [List.getLast_eq_getElem]
  exact h1
theorem norm_rd {l : List Int} (h : Norm l) (hl : 0 < l.length) : rd l (l.length - 1) ≠ 0 := by
  have h0 : l ≠ [] := by rintro rfl; simp at hl
  have := h h0
  rw [List.getLast_eq_getElem] at this
  rw [rd_at l _ (by omega)]
  exact this
theorem val_take_succ (B : Int) (l : List Int) (i : Nat) : val B (l.take (i + 1)) = val B (l.take i) + B ^ i * rd l i := by
  by_cases h : i < l.length
  · rw [List.take_succ_eq_append_getElem h, val_snoc, ← rd_at l i h, List.length_take, Nat.min_eq_left (by omega)]
  · rw [rd_out l i (by omega), List.take_of_length_le (by omega), List.take_of_length_le (by omega), Int.mul_zero, Int.add_zero]
theorem val_drop (B : Int) (l : List Int) (i : Nat) (h : i < l.length) : val B (l.drop i) = rd l i + B * val B (l.drop (i + 1)) := by
  rw [List.drop_eq_getElem_cons h, ← rd_at l i h]; rfl
def digs (B : Nat) (n : Nat) : List Int := if h : n = 0 ∨ B ≤ 1 then [] else ((n % B : Nat) : Int) :: digs B (n / B)
termination_by n
decreasing_by exact Nat.div_lt_self (by omega) (by omega)
theorem digs_zero (B : Nat) : digs B 0 = [] := by unfold digs; simp
theorem digs_pos {B n : Nat} (hB : 1 < B) (hn : 0 < n) : digs B n = ((n % B : Nat) : Int) :: digs B (n / B) := by rw [digs, dif_neg (by omega)]
theorem digs_spec {B : Nat} (hB : 1 < B) (n : Nat) : Lim B (digs B n) ∧ Norm (digs B n) ∧ val B (digs B n) = n := by
  induction n using Nat.strongRecOn with
  | _ n ih =>
    rcases Nat.eq_zero_or_pos n with rfl | hn
    · rw [digs_zero]; exact ⟨Lim.nil _, Norm.nil, rfl⟩
    · obtain ⟨h1, h2, h3⟩ := ih (n / B) (Nat.div_lt_self hn hB)
      rw [digs_pos hB hn]
      have hm := Nat.mod_lt n (show 0 < B by omega)
      refine ⟨h1.cons (by omega) (by omega), ?_, ?_⟩
      · intro h
        by_cases hd : digs B (n / B) = []
        · have h0 : n / B = 0 := by
            rw [hd] at h3
            simp [val] at h3
            omega
          simp only [hd, List.getLast_singleton]
          have := Nat.div_add_mod n B
          rw [h0] at this
          simp at this
          omega
        · rw [List.getLast_cons hd]; exact h2 hd
      · simp only [val, h3]
        have := Nat.div_add_mod n B
        have e : ((n % B : Nat) : Int) + (B : Int) * ((n / B : Nat) : Int) = ((B * (n / B) + n % B : Nat) : Int) := by push_cast; omega
        rw [e, this]
theorem digs_lim {B : Nat} (hB : 1 < B) (n : Nat) : Lim B (digs B n) := (digs_spec hB n).1
theorem digs_norm {B : Nat} (hB : 1 < B) (n : Nat) : Norm (digs B n) := (digs_spec hB n).2.1
theorem digs_val {B : Nat} (hB : 1 < B) (n : Nat) : val B (digs B n) = n := (digs_spec hB n).2.2
theorem digs_eq {B : Nat} (hB : 1 < B) {l : List Int} (h : Lim B l) (hn : Norm l) : digs B (val B l).toNat = l := by
  refine uniq (B := B) (by omega) (digs_lim hB _) h (digs_norm hB _) hn ?_
  rw [digs_val hB]
  exact Int.toNat_of_nonneg (val_nonneg (by omega) h)
theorem digs_eq' {B : Nat} (hB : 1 < B) {l : List Int} (h : Lim B l) (hn : Norm l) {n : Nat} (hv : val B l = n) : l = digs B n := by
  rw [← digs_eq hB h hn, hv]; rfl
theorem digsB_eq {l : List Int} (h : Lim 1000000000 l) (hn : Norm l) : digs 1000000000 (val 1000000000 l).toNat = l := digs_eq (B := 1000000000) (by omega) h hn
theorem digsT_eq {l : List Int} (h : Lim 10 l) (hn : Norm l) : digs 10 (val 10 l).toNat = l := digs_eq (B := 10) (by omega) h hn
theorem digsT_val (n : Nat) : val 10 (digs 10 n) = n := digs_val (B := 10) (by omega) n
theorem digsT_lim (n : Nat) : Lim 10 (digs 10 n) := digs_lim (B := 10) (by omega) n
theorem digsT_norm (n : Nat) : Norm (digs 10 n) := digs_norm (by omega) n
theorem digs_len {B : Nat} (hB : 1 < B) (n k : Nat) : (digs B n).length ≤ k ↔ n < B ^ k := by
  rw [len_le_iff (B := B) (by omega) (digs_lim hB n) (digs_norm hB n) k, digs_val hB]
  rw [← Int.natCast_pow]
  omega
theorem digs_nil {B : Nat} (hB : 1 < B) (n : Nat) : digs B n = [] ↔ n = 0 := by
  rw [← val_zero_iff (B := B) (by omega) (digs_lim hB n) (digs_norm hB n), digs_val hB]; omega
theorem pow9 (n : Nat) : (10 : Int) ^ (9 * n) = 1000000000 ^ n := by
  induction n with
  | zero => rfl
  | succ n ih => rw [show 9 * (n + 1) = 9 * n + 9 from by omega, Int.pow_add, ih, Int.pow_succ]; rfl
theorem cast_ten_pow (n : Nat) : (((10 : Nat) ^ n : Nat) : Int) = 10 ^ n := Int.natCast_pow 10 n
theorem pow9N (n : Nat) : (10 : Nat) ^ (9 * n) = 1000000000 ^ n := by rw [Nat.pow_mul]
def sv (s : Bool) (l : List Int) : Int := if s = true then - val 1000000000 l else val 1000000000 l
def bigN (z : Int) : Bool := decide (z < 0)
def bigL (z : Int) : List Int := digs 1000000000 z.natAbs
def sndB (s : Bool) (l : List Int) : Bool :=
  decide (l.length ≤ 64) && l.all (fun x => decide (x < 1000000000)) && (if l.length = 0 then !s else rd l (l.length - 1) != 0)
structure Snd (s : Bool) (l : List Int) : Prop where
  len : l.length ≤ 64
  lim : Lim 1000000000 l
  norm : Norm l
  sign : l = [] → s = false
def U32 (l : List Int) : Prop := Lim 4294967296 l
theorem sndB_iff {s : Bool} {l : List Int} (hu : U32 l) : sndB s l = true ↔ Snd s l := by
  unfold sndB
  simp only [Bool.and_eq_true, decide_eq_true_eq, List.all_eq_true]
  constructor
  · rintro ⟨⟨h1, h2⟩, h3⟩
    refine ⟨h1, fun x hx => ⟨(hu x hx).1, h2 x hx⟩, norm_of_rd fun hl => ?_, ?_⟩
    · rw [if_neg (by omega)] at h3; simpa using h3
    · rintro rfl; simpa using h3
  · intro h
    refine ⟨⟨h.len, fun x hx => (h.lim x hx).2⟩, ?_⟩
    split
    · rename_i h0
      rw [h.sign (List.length_eq_zero_iff.1 h0)]; rfl
    · simpa using norm_rd h.norm (by omega)
theorem bigL_len (z : Int) (n : Nat) : (bigL z).length ≤ n ↔ z.natAbs < 1000000000 ^ n := digs_len (by omega) _ _
theorem bigL_nil (z : Int) : bigL z = [] ↔ z = 0 := by unfold bigL; rw [digs_nil (by omega)]; omega
end Go.Proofs.YtejefchehdifhaaGreatDoor.Ev
end
section
set_option linter.unusedVariables false
namespace Go.Proofs.YtejefchehdifhaaGreatDoor.Ev
open Go
def ints (k : IntKind) (l : List Int) : List (List FV) := l.map fun n => [FV.int k n]
theorem ints_len (k : IntKind) (l : List Int) : (ints k l).length = l.length := by simp [ints]
theorem ints_app (k : IntKind) (l m : List Int) : ints k l ++ ints k m = ints k (l ++ m) := by simp [ints]
theorem ints_snoc (k : IntKind) (l : List Int) (n : Int) : ints k l ++ [[FV.int k n]] = ints k (l ++ [n]) := by simp [ints]
theorem ints_take (k : IntKind) (l : List Int) (n : Nat) : (ints k l).take n = ints k (l.take n) := by simp [ints]
theorem ints_drop (k : IntKind) (l : List Int) (n : Nat) : (ints k l).drop n = ints k (l.drop n) := by simp [ints]
theorem ints_set (k : IntKind) (l : List Int) (i : Nat) (n : Int) : (ints k l).set i [FV.int k n] = ints k (l.set i n) := by simp [ints, List.map_set]
theorem ints_rep (k : IntKind) (m : Nat) (n : Int) : List.replicate m [FV.int k n] = ints k (List.replicate m n) := by simp [ints]
theorem ints_one (k : IntKind) (n : Int) : [[FV.int k n]] = ints k [n] := rfl
theorem ints_inj {k : IntKind} {l m : List Int} : ints k l = ints k m ↔ l = m := by
  constructor
  · intro h
    have : ∀ (l m : List Int), ints k l = ints k m → l = m := by
      intro l
      induction l with
      | nil => intro m h; cases m with | nil => rfl | cons => cases h
      | cons x l ih =>
        intro m h
        cases m with
        | nil => cases h
        | cons y m =>
          simp only [ints, List.map_cons, List.cons.injEq, FV.int.injEq] at h
          rw [h.1.1.2, ih m h.2]
    exact this l m h
  · rintro rfl; rfl
theorem ints_eq_nil {k : IntKind} {l : List Int} : ints k l = [] ↔ l = [] := ints_inj (m := [])
theorem ex_rd {k : IntKind} {l : List Int} {i : Nat} {Q : Int → Prop} : (∃ n : Int, (ints k l)[i]? = some [FV.int k n] ∧ Q n) ↔ (i < l.length ∧ Q (rd l i)) := by
  constructor
  · rintro ⟨n, h, hq⟩
    simp only [ints, List.getElem?_map, Option.map_eq_some_iff, List.cons.injEq, FV.int.injEq] at h
    obtain ⟨x, hx, ⟨_, rfl⟩, _⟩ := h
    refine ⟨?_, by rw [rd_some hx]; exact hq⟩
    exact (List.getElem?_eq_some_iff.1 hx).1
  · rintro ⟨h, hq⟩
    exact ⟨rd l i, by simp [ints, some_rd h], hq⟩
theorem dec_t (p : Prop) [Decidable p] (X : Prop) : ((decide p = true) → X) ↔ (p → X) := by simp
theorem dec_f (p : Prop) [Decidable p] (X : Prop) : ((decide p = false) → X) ↔ (¬ p → X) := by simp
theorem beq_t (a b : Int) (X : Prop) : (((a == b) = true) → X) ↔ (a = b → X) := by simp
theorem beq_f (a b : Int) (X : Prop) : (((a == b) = false) → X) ↔ (a ≠ b → X) := by simp
theorem bne_t (a b : Int) (X : Prop) : (((a != b) = true) → X) ↔ (a ≠ b → X) := by simp
theorem bne_f (a b : Int) (X : Prop) : (((a != b) = false) → X) ↔ (a = b → X) := by simp
theorem not_t (b : Bool) (X : Prop) : (((Bool.not b) = true) → X) ↔ (b = false → X) := by simp
theorem not_f (b : Bool) (X : Prop) : (((Bool.not b) = false) → X) ↔ (b = true → X) := by simp
theorem w64 {n : Int} (h0 : -9223372036854775808 ≤ n) (h1 : n ≤ 9223372036854775807) : IntKind.wrap .i64 n = n := IntWalk.i64_in n ⟨h0, h1⟩
theorem wu64 {n : Int} (h0 : 0 ≤ n) (h1 : n ≤ 18446744073709551615) : IntKind.wrap .u64 n = n := IntWalk.u64_in n ⟨h0, h1⟩
theorem wu32 {n : Int} (h0 : 0 ≤ n) (h1 : n ≤ 4294967295) : IntKind.wrap .u32 n = n := IntWalk.u32_in n ⟨h0, h1⟩
theorem wu8 {n : Int} (h0 : 0 ≤ n) (h1 : n ≤ 255) : IntKind.wrap .u8 n = n := IntWalk.u8_in n ⟨h0, h1⟩
theorem Wk_nil : Wk [] [] ↔ True := Iff.rfl
theorem Wk_cons (a b : Ob) (l m : List Ob) : Wk (a :: l) (b :: m) ↔ wk1 a b ∧ Wk l m := Iff.rfl
theorem wk1_same (a : Ob) : wk1 a a ↔ True := by simp [wk1.refl]
abbrev fzI (k : IntKind) (n : Int) : TV := .one (.fz (.int k n))
abbrev fzB (b : Bool) : TV := .one (.fz (.bool b))
abbrev fzS (k : IntKind) (l : List Int) : TV := .one (.fz (.sl 1 (ints k l)))
abbrev fzN (s : Bool) (l : List Int) : TV := .agg [.fz (.bool s), .fz (.sl 1 (ints .u32 l))]
theorem exR (v : TV) : ∃ R : TV → List Ob → Prop, R v [] ∧ (fun r' h' => r' = v ∧ h' = []) = R := ⟨_, ⟨rfl, rfl⟩, rfl⟩
end Go.Proofs.YtejefchehdifhaaGreatDoor.Ev
end
section
set_option linter.unusedVariables false
set_option maxRecDepth 100000
namespace Go.Proofs.YtejefchehdifhaaGreatDoor.Ev
open Go
def slices_ContainsFunc_uint32_uint32_lv : List Nat → Keep := lvOf []
def slices_ContainsFunc_uint32_uint32_H (R : TV → List Ob → Prop) (s : List (List FV)) (f : FV) : Prop :=
  (∃ n1 : Int, ((Fn Tryz.prog 161 [(TV.one (AV.fz (FV.sl 1 s))), (TV.one (AV.fz f))] [] (TV.one (AV.fz (FV.int .i64 n1))) []) ∧ (R (TV.one (AV.fz (FV.bool (decide ((0 : Int) ≤ n1))))) [])))
theorem slices_ContainsFunc_uint32_uint32_fn (s : List (List FV)) (f : FV) {r : TV} {h : List Ob} (H : slices_ContainsFunc_uint32_uint32_H (fun r' h' => r' = r ∧ h' = h) s f) : Fn Tryz.prog 142 [(TV.one (AV.fz (FV.sl 1 s))), (TV.one (AV.fz f))] [] r h :=
  Fn.by_tr (M := (modeOf [] [])) (lv := slices_ContainsFunc_uint32_uint32_lv) (own := none) (F := Tryz.f142) (by kernel_rfl) (by kernel_rfl) (by first | decide | simp) (fun _ _ h => h) (by kernel_rfl) H
def slices_IndexFunc_uint32_uint32_lv : List Nat → Keep := lvOf [([0, 1, 0, 1], ⟨387, 0, [], false, false⟩)]
def slices_IndexFunc_uint32_uint32_S0 (s : List (List FV)) (i : Int) : St := (St.mk [(TV.one (AV.fz (FV.sl 1 s))), (TV.one (AV.fz (FV.fn 143 []))), TV.und, TV.und, TV.und, TV.und, TV.und, (TV.one (AV.fz (FV.int .i64 (((List.length s) : Nat) : Int)))), (TV.one (AV.fz (FV.int .i64 i))), TV.und, TV.und, TV.und, TV.und, TV.und, TV.und, TV.und, TV.und, TV.und, TV.und] [])
def slices_IndexFunc_uint32_uint32_L0 (R : TV → List Ob → Prop) (s : List (List FV)) (i : Int) : Prop := LoopAt Tryz.prog (modeOf [] []) slices_IndexFunc_uint32_uint32_lv Tryz.f161 none R [1, 0, 1, 0] (slices_IndexFunc_uint32_uint32_S0 s i)
def slices_IndexFunc_uint32_uint32_R0 (R : TV → List Ob → Prop) (s : List (List FV)) (i : Int) : Prop :=
  ((((decide (i < (((List.length s) : Nat) : Int))) = true) → (((0 : Int) ≤ i) ∧ (∃ n2 : Int, (((s)[(Int.toNat i)]? = (some [(FV.int .u32 n2)])) ∧ (∃ b2 : Bool, ((Fn Tryz.prog 143 [(TV.one (AV.fz (FV.int .u32 n2)))] [] (TV.one (AV.fz (FV.bool b2))) []) ∧ (((b2 = true) → (R (TV.one (AV.fz (FV.int .i64 i))) [])) ∧ ((b2 = false) → (slices_IndexFunc_uint32_uint32_L0 R s (IntKind.wrap .i64 (i + 1))))))))))) ∧ (((decide (i < (((List.length s) : Nat) : Int))) = false) → (R (TV.one (AV.fz (FV.int .i64 (-1)))) [])))
theorem slices_IndexFunc_uint32_uint32_l0 {R : TV → List Ob → Prop} {s : List (List FV)} {i : Int} (h : slices_IndexFunc_uint32_uint32_R0 R s i) : slices_IndexFunc_uint32_uint32_L0 R s i :=
  LoopAt.by_tr (by kernel_rfl) (by kernel_rfl) h
def slices_IndexFunc_uint32_uint32_H (R : TV → List Ob → Prop) (s : List (List FV)) : Prop :=
  (slices_IndexFunc_uint32_uint32_L0 R s 0)
theorem slices_IndexFunc_uint32_uint32_fn (s : List (List FV)) {r : TV} {h : List Ob} (H : slices_IndexFunc_uint32_uint32_H (fun r' h' => r' = r ∧ h' = h) s) : Fn Tryz.prog 161 [(TV.one (AV.fz (FV.sl 1 s))), (TV.one (AV.fz (FV.fn 143 [])))] [] r h :=
  Fn.by_tr (M := (modeOf [] [])) (lv := slices_IndexFunc_uint32_uint32_lv) (own := none) (F := Tryz.f161) (by kernel_rfl) (by kernel_rfl) (by first | decide | simp) (fun _ _ h => h) (by kernel_rfl) H
end Go.Proofs.YtejefchehdifhaaGreatDoor.Ev
end
section
set_option linter.unusedVariables false
set_option maxRecDepth 100000
namespace Go.Proofs.YtejefchehdifhaaGreatDoor.Ev
open Go
def num_of_lv : List Nat → Keep := lvOf []
def num_of_H (R : TV → List Ob → Prop) (neg : Bool) (l : List (List FV)) : Prop :=
  (∃ es1 : List (List FV), ((Fn Tryz.prog 118 [(TV.one (AV.fz (FV.sl 1 l)))] [] (TV.one (AV.fz (FV.sl 1 es1))) []) ∧ ((((decide ((64 : Int) < (((List.length es1) : Nat) : Int))) = true) → (R (TV.tup [(true, [(AV.fz (FV.bool false)), (AV.fz (FV.sl 1 ([] : List (List FV))))]), (false, [(AV.fz (FV.int .i64 6))])]) [])) ∧ (((decide ((64 : Int) < (((List.length es1) : Nat) : Int))) = false) → (((neg = true) → (R (TV.tup [(true, [(AV.fz (FV.bool (decide ((0 : Int) < (((List.length es1) : Nat) : Int))))), (AV.fz (FV.sl 1 es1))]), (false, [(AV.fz (FV.int .i64 0))])]) [])) ∧ ((neg = false) → (R (TV.tup [(true, [(AV.fz (FV.bool false)), (AV.fz (FV.sl 1 es1))]), (false, [(AV.fz (FV.int .i64 0))])]) [])))))))
theorem num_of_fn (neg : Bool) (l : List (List FV)) {r : TV} {h : List Ob} (H : num_of_H (fun r' h' => r' = r ∧ h' = h) neg l) : Fn Tryz.prog 86 [(TV.one (AV.fz (FV.bool neg))), (TV.one (AV.fz (FV.sl 1 l)))] [] r h :=
  Fn.by_tr (M := (modeOf [] [])) (lv := num_of_lv) (own := none) (F := Tryz.f86) (by kernel_rfl) (by kernel_rfl) (by first | decide | simp) (fun _ _ h => h) (by kernel_rfl) H
def num_cut_lv : List Nat → Keep := lvOf [([0, 0, 1], ⟨1, 0, [], false, false⟩)]
def num_cut_S0 (l1 : List (List FV)) : St := (St.mk [(TV.one (AV.fz (FV.sl 1 l1))), TV.und, TV.und, TV.und, TV.und, TV.und, TV.und, TV.und, TV.und, TV.und, TV.und, TV.und, TV.und, TV.und, TV.und, TV.und, TV.und, TV.und, TV.und, TV.und, TV.und] [])
def num_cut_L0 (R : TV → List Ob → Prop) (l1 : List (List FV)) : Prop := LoopAt Tryz.prog (modeOf [] []) num_cut_lv Tryz.f118 none R [1, 0, 0] (num_cut_S0 l1)
def num_cut_R0 (R : TV → List Ob → Prop) (l1 : List (List FV)) : Prop :=
  ((((decide ((0 : Int) < (((List.length l1) : Nat) : Int))) = true) → (((0 : Int) ≤ (IntKind.wrap .i64 ((((List.length l1) : Nat) : Int) - 1))) ∧ (∃ n2 : Int, (((l1)[(Int.toNat (IntKind.wrap .i64 ((((List.length l1) : Nat) : Int) - 1)))]? = (some [(FV.int .u32 n2)])) ∧ ((((n2 == 0) = true) → ((((0 : Int) ≤ (IntKind.wrap .i64 ((((List.length l1) : Nat) : Int) - 1))) ∧ ((IntKind.wrap .i64 ((((List.length l1) : Nat) : Int) - 1)) ≤ (((List.length l1) : Nat) : Int))) ∧ (num_cut_L0 R (List.take (Int.toNat (IntKind.wrap .i64 ((((List.length l1) : Nat) : Int) - 1))) l1)))) ∧ (((n2 == 0) = false) → (R (TV.one (AV.fz (FV.sl 1 l1))) []))))))) ∧ (((decide ((0 : Int) < (((List.length l1) : Nat) : Int))) = false) → (R (TV.one (AV.fz (FV.sl 1 l1))) [])))
theorem num_cut_l0 {R : TV → List Ob → Prop} {l1 : List (List FV)} (h : num_cut_R0 R l1) : num_cut_L0 R l1 :=
  LoopAt.by_tr (by kernel_rfl) (by kernel_rfl) h
def num_cut_H (R : TV → List Ob → Prop) (l : List (List FV)) : Prop :=
  (num_cut_L0 R l)
theorem num_cut_fn (l : List (List FV)) {r : TV} {h : List Ob} (H : num_cut_H (fun r' h' => r' = r ∧ h' = h) l) : Fn Tryz.prog 118 [(TV.one (AV.fz (FV.sl 1 l)))] [] r h :=
  Fn.by_tr (M := (modeOf [] [])) (lv := num_cut_lv) (own := none) (F := Tryz.f118) (by kernel_rfl) (by kernel_rfl) (by first | decide | simp) (fun _ _ h => h) (by kernel_rfl) H
def num_Sound_lv : List Nat → Keep := lvOf []
def num_Sound_H (R : TV → List Ob → Prop) (x0 : Bool) (x1 : List (List FV)) : Prop :=
  (((((((List.length x1) : Nat) : Int) == 0) = true) → (R (TV.one (AV.fz (FV.bool (Bool.not x0)))) [])) ∧ ((((((List.length x1) : Nat) : Int) == 0) = false) → ((((decide ((((List.length x1) : Nat) : Int) ≤ 64)) = true) → (((0 : Int) ≤ (IntKind.wrap .i64 ((((List.length x1) : Nat) : Int) - 1))) ∧ (∃ n1 : Int, (((x1)[(Int.toNat (IntKind.wrap .i64 ((((List.length x1) : Nat) : Int) - 1)))]? = (some [(FV.int .u32 n1)])) ∧ ((((n1 != 0) = true) → (∃ b1 : Bool, ((Fn Tryz.prog 142 [(TV.one (AV.fz (FV.sl 1 x1))), (TV.one (AV.fz (FV.fn 143 [])))] [] (TV.one (AV.fz (FV.bool b1))) []) ∧ (R (TV.one (AV.fz (FV.bool (Bool.not b1)))) [])))) ∧ (((n1 != 0) = false) → (R (TV.one (AV.fz (FV.bool false))) []))))))) ∧ (((decide ((((List.length x1) : Nat) : Int) ≤ 64)) = false) → (R (TV.one (AV.fz (FV.bool false))) [])))))
theorem num_Sound_fn (x0 : Bool) (x1 : List (List FV)) {r : TV} {h : List Ob} (H : num_Sound_H (fun r' h' => r' = r ∧ h' = h) x0 x1) : Fn Tryz.prog 124 [(TV.agg [(AV.fz (FV.bool x0)), (AV.fz (FV.sl 1 x1))])] [] r h :=
  Fn.by_tr (M := (modeOf [] [])) (lv := num_Sound_lv) (own := none) (F := Tryz.f124) (by kernel_rfl) (by kernel_rfl) (by first | decide | simp) (fun _ _ h => h) (by kernel_rfl) H
def num_Sound_1_lv : List Nat → Keep := lvOf []
def num_Sound_1_H (R : TV → List Ob → Prop) (l : Int) : Prop :=
  (R (TV.one (AV.fz (FV.bool (decide ((1000000000 : Int) ≤ l))))) [])
theorem num_Sound_1_fn (l : Int) {r : TV} {h : List Ob} (H : num_Sound_1_H (fun r' h' => r' = r ∧ h' = h) l) : Fn Tryz.prog 143 [(TV.one (AV.fz (FV.int .u32 l)))] [] r h :=
  Fn.by_tr (M := (modeOf [] [])) (lv := num_Sound_1_lv) (own := none) (F := Tryz.f143) (by kernel_rfl) (by kernel_rfl) (by first | decide | simp) (fun _ _ h => h) (by kernel_rfl) H
end Go.Proofs.YtejefchehdifhaaGreatDoor.Ev
end
section
set_option linter.unusedVariables false
set_option linter.unusedSimpArgs false
namespace Go.Proofs.YtejefchehdifhaaGreatDoor.Ev
open Go
theorem sound1_ok (x : Int) : Fn Tryz.prog 143 [fzI .u32 x] [] (fzB (decide (1000000000 ≤ x))) [] :=
  num_Sound_1_fn x (by unfold num_Sound_1_H; simp)
theorem indexFunc_loop (l : List Int) (hl : l.length ≤ 100000000000000) : ∀ (d j : Nat), j + d = l.length → (l.take j).any (fun x => decide (1000000000 ≤ x)) = false →
    ∃ n : Int, (decide (0 ≤ n) = l.any (fun x => decide (1000000000 ≤ x))) ∧ ∀ R : TV → List Ob → Prop, R (fzI .i64 n) [] → slices_IndexFunc_uint32_uint32_L0 R (ints .u32 l) j
  | 0, j, hj, h => by
    refine ⟨-1, ?_, fun R hR => slices_IndexFunc_uint32_uint32_l0 ?_⟩
    · rw [List.take_of_length_le (by omega)] at h
      rw [h]; simp
    · unfold slices_IndexFunc_uint32_uint32_R0
      simp only [ints_len, ints_app, ints_snoc, ints_take, ints_drop, ints_set, ints_rep, ints_one, ex_rd, dec_t, dec_f, beq_t, beq_f, bne_t, bne_f, not_t, not_f, List.length_set, List.length_append, List.length_cons, List.length_nil, List.length_take, List.length_drop, List.length_replicate, Int.toNat_natCast, List.nil_append, Bool.not_true, Bool.not_false, Wk_nil, Wk_cons, wk1_same, wk1_f, and_true, true_and, Bool.false_eq_true, Bool.true_eq_false, false_implies, forall_const]
      exact ⟨fun h => by omega, fun _ => hR⟩
  | d + 1, j, hj, h => by
    by_cases hx : 1000000000 ≤ rd l j
    · refine ⟨j, ?_, fun R hR => slices_IndexFunc_uint32_uint32_l0 ?_⟩
      · have : l.any (fun x => decide (1000000000 ≤ x)) = true := by
          rw [List.any_eq_true]
          exact ⟨rd l j, by rw [rd_at l j (by omega)]; exact List.getElem_mem _, by simpa using hx⟩
        rw [this]; simp
      · unfold slices_IndexFunc_uint32_uint32_R0
        simp only [ints_len, ints_app, ints_snoc, ints_take, ints_drop, ints_set, ints_rep, ints_one, ex_rd, dec_t, dec_f, beq_t, beq_f, bne_t, bne_f, not_t, not_f, List.length_set, List.length_append, List.length_cons, List.length_nil, List.length_take, List.length_drop, List.length_replicate, Int.toNat_natCast, List.nil_append, Bool.not_true, Bool.not_false, Wk_nil, Wk_cons, wk1_same, wk1_f, and_true, true_and, Bool.false_eq_true, Bool.true_eq_false, false_implies, forall_const]
        refine ⟨fun _ => ⟨by omega, by omega, _, sound1_ok _, ?_⟩, fun h => by omega⟩
        simp only [ints_len, ints_app, ints_snoc, ints_take, ints_drop, ints_set, ints_rep, ints_one, ex_rd, dec_t, dec_f, beq_t, beq_f, bne_t, bne_f, not_t, not_f, List.length_set, List.length_append, List.length_cons, List.length_nil, List.length_take, List.length_drop, List.length_replicate, Int.toNat_natCast, List.nil_append, Bool.not_true, Bool.not_false, Wk_nil, Wk_cons, wk1_same, wk1_f, and_true, true_and, Bool.false_eq_true, Bool.true_eq_false, false_implies, forall_const, hx, not_true]
        repeat' (first | (with_reducible refine And.intro ?_ ?_) | (with_reducible intro _)); all_goals (try rfl)
        exact hR
    · obtain ⟨n, h1, h2⟩ := indexFunc_loop l hl d (j + 1) (by omega) (by
        rw [List.take_succ_eq_append_getElem (by omega), List.any_append, h, ← rd_at l j (by omega)]
        simpa using hx)
      refine ⟨n, h1, fun R hR => slices_IndexFunc_uint32_uint32_l0 ?_⟩
      unfold slices_IndexFunc_uint32_uint32_R0
      simp only [ints_len, ints_app, ints_snoc, ints_take, ints_drop, ints_set, ints_rep, ints_one, ex_rd, dec_t, dec_f, beq_t, beq_f, bne_t, bne_f, not_t, not_f, List.length_set, List.length_append, List.length_cons, List.length_nil, List.length_take, List.length_drop, List.length_replicate, Int.toNat_natCast, List.nil_append, Bool.not_true, Bool.not_false, Wk_nil, Wk_cons, wk1_same, wk1_f, and_true, true_and, Bool.false_eq_true, Bool.true_eq_false, false_implies, forall_const]
      refine ⟨fun _ => ⟨by omega, by omega, _, sound1_ok _, ?_⟩, fun h => by omega⟩
      have e : IntKind.wrap .i64 ((j : Int) + 1) = ((j + 1 : Nat) : Int) := w64 (by omega) (by omega)
      simp only [ints_len, ints_app, ints_snoc, ints_take, ints_drop, ints_set, ints_rep, ints_one, ex_rd, dec_t, dec_f, beq_t, beq_f, bne_t, bne_f, not_t, not_f, List.length_set, List.length_append, List.length_cons, List.length_nil, List.length_take, List.length_drop, List.length_replicate, Int.toNat_natCast, List.nil_append, Bool.not_true, Bool.not_false, Wk_nil, Wk_cons, wk1_same, wk1_f, and_true, true_and, Bool.false_eq_true, Bool.true_eq_false, false_implies, forall_const, hx, not_false_eq_true, e]
      repeat' (first | (with_reducible refine And.intro ?_ ?_) | (with_reducible intro _)); all_goals (try rfl)
      exact h2 R hR
theorem containsFunc_ok (l : List Int) (hl : l.length ≤ 100000000000000) :
    Fn Tryz.prog 142 [fzS .u32 l, .one (.fz (.fn 143 []))] [] (fzB (l.any (fun x => decide (1000000000 ≤ x)))) [] := by
  obtain ⟨n, h1, h2⟩ := indexFunc_loop l hl l.length 0 (by omega) (by simp)
  refine slices_ContainsFunc_uint32_uint32_fn _ _ ?_
  unfold slices_ContainsFunc_uint32_uint32_H
  exact ⟨n, slices_IndexFunc_uint32_uint32_fn _ (h2 _ ⟨rfl, rfl⟩), by rw [h1], rfl⟩
theorem all_lt (l : List Int) : l.all (fun x => decide (x < 1000000000)) = !l.any (fun x => decide (1000000000 ≤ x)) := by
  induction l with
  | nil => rfl
  | cons x l ih =>
    simp only [List.all_cons, List.any_cons, ih, Bool.not_or]
    congr 1
    by_cases h : x < 1000000000
    · simp [h, show ¬ 1000000000 ≤ x by omega]
    · simp [h, show 1000000000 ≤ x by omega]
theorem sound_ok (s : Bool) (l : List Int) (hl : l.length ≤ 100000000000000) : Fn Tryz.prog 124 [fzN s l] [] (fzB (sndB s l)) [] := by
  refine num_Sound_fn _ _ ?_
  unfold num_Sound_H
  unfold sndB
  rw [all_lt]
  simp only [ints_len, ints_app, ints_snoc, ints_take, ints_drop, ints_set, ints_rep, ints_one, ex_rd, dec_t, dec_f, beq_t, beq_f, bne_t, bne_f, not_t, not_f, List.length_set, List.length_append, List.length_cons, List.length_nil, List.length_take, List.length_drop, List.length_replicate, Int.toNat_natCast, List.nil_append, Bool.not_true, Bool.not_false, Wk_nil, Wk_cons, wk1_same, wk1_f, and_true, true_and, Bool.false_eq_true, Bool.true_eq_false, false_implies, forall_const]
  refine ⟨fun h => ?_, fun h => ⟨fun h2 => ?_, fun h2 => ?_⟩⟩
  · have : l = [] := List.length_eq_zero_iff.1 (by omega)
    subst this
    simp
  · have e : IntKind.wrap .i64 ((l.length : Int) - 1) = ((l.length - 1 : Nat) : Int) := by rw [w64 (by omega) (by omega)]; omega
    simp only [e, Int.toNat_natCast]
    have h3 : l.length ≤ 64 := by omega
    have h4 : l.length ≠ 0 := by omega
    refine ⟨by omega, by omega, fun h5 => ⟨_, containsFunc_ok l hl, ?_⟩, fun h5 => ?_⟩
    · simp [h3, h4, h5]
    · simp [h4, h5]
  · have h3 : ¬ l.length ≤ 64 := by omega
    simp [h3]
theorem cut_loop (R : TV → List Ob → Prop) : ∀ (n : Nat) (l : List Int), l.length = n → n ≤ 1000000 → Lim 1000000000 l → R (fzS .u32 (digs 1000000000 (val 1000000000 l).toNat)) [] → num_cut_L0 R (ints .u32 l)
  | 0, l, hn, _, hL, hR => by
    obtain rfl := List.length_eq_zero_iff.1 hn
    refine num_cut_l0 ?_
    unfold num_cut_R0
    simp only [ints_len, ints_app, ints_snoc, ints_take, ints_drop, ints_set, ints_rep, ints_one, ex_rd, dec_t, dec_f, beq_t, beq_f, bne_t, bne_f, not_t, not_f, List.length_set, List.length_append, List.length_cons, List.length_nil, List.length_take, List.length_drop, List.length_replicate, Int.toNat_natCast, List.nil_append, Bool.not_true, Bool.not_false, Wk_nil, Wk_cons, wk1_same, wk1_f, and_true, true_and, Bool.false_eq_true, Bool.true_eq_false, false_implies, forall_const]
    refine ⟨fun h => by omega, fun _ => ?_⟩
    have e : (val 1000000000 []).toNat = 0 := rfl
    rw [e, digs_zero] at hR
    exact hR
  | n + 1, l, hn, hb, hL, hR => by
    refine num_cut_l0 ?_
    unfold num_cut_R0
    have e : IntKind.wrap .i64 ((l.length : Int) - 1) = (n : Nat) := by rw [w64 (by omega) (by omega)]; omega
    simp only [ints_len, ints_app, ints_snoc, ints_take, ints_drop, ints_set, ints_rep, ints_one, ex_rd, dec_t, dec_f, beq_t, beq_f, bne_t, bne_f, not_t, not_f, List.length_set, List.length_append, List.length_cons, List.length_nil, List.length_take, List.length_drop, List.length_replicate, Int.toNat_natCast, List.nil_append, Bool.not_true, Bool.not_false, Wk_nil, Wk_cons, wk1_same, wk1_f, and_true, true_and, Bool.false_eq_true, Bool.true_eq_false, false_implies, forall_const, e]
    refine ⟨fun _ => ⟨by omega, by omega, fun h0 => ⟨by omega, ?_⟩, fun h0 => ?_⟩, fun h => by omega⟩
    · refine cut_loop R n _ (by simp; omega) (by omega) (hL.take n) ?_
      have := val_take_succ 1000000000 l n
      rw [List.take_of_length_le (by omega), h0, Int.mul_zero, Int.add_zero] at this
      rwa [← this]
    · have hnm : Norm l := norm_of_rd fun _ => by rw [hn]; exact h0
      rwa [digsB_eq hL hnm] at hR
theorem cut_ok (l : List Int) (hl : l.length ≤ 1000000) (hL : Lim 1000000000 l) : Fn Tryz.prog 118 [fzS .u32 l] [] (fzS .u32 (digs 1000000000 (val 1000000000 l).toNat)) [] :=
  num_cut_fn _ (cut_loop _ _ l rfl hl hL ⟨rfl, rfl⟩)
end Go.Proofs.YtejefchehdifhaaGreatDoor.Ev
end
section
set_option linter.unusedVariables false
set_option linter.unusedSimpArgs false
namespace Go.Proofs.YtejefchehdifhaaGreatDoor.Ev
open Go
abbrev tupNE (s : Bool) (l : List Int) (e : Int) : TV := .tup [(true, [.fz (.bool s), .fz (.sl 1 (ints .u32 l))]), (false, [.fz (.int .i64 e)])]
def outS (z : Int) : Bool := if 64 < (bigL z).length then false else bigN z
def outL (z : Int) : List Int := if 64 < (bigL z).length then [] else bigL z
def outE (z : Int) : Int := if 64 < (bigL z).length then 6 else 0
abbrev outT (z : Int) : TV := tupNE (outS z) (outL z) (outE z)
theorem sgn_val (s : Bool) (l : List Int) (hL : Lim 1000000000 l) : digs 1000000000 (val 1000000000 l).toNat = bigL (sv s l) := by
  have := val_nonneg (B := 1000000000) (by omega) hL
  unfold bigL sv
  congr 1
  split <;> omega
theorem of_ok (s : Bool) (l : List Int) (hl : l.length ≤ 1000000) (hL : Lim 1000000000 l) : Fn Tryz.prog 86 [fzB s, fzS .u32 l] [] (outT (sv s l)) [] := by
  have h0 := val_nonneg (B := 1000000000) (by omega) hL
  refine num_of_fn _ _ ?_
  unfold num_of_H
  refine ⟨_, cut_ok l hl hL, ?_⟩
  have hz := bigL_nil (sv s l)
  rw [sgn_val s l hL]
  unfold outT outS outL outE
  simp only [ints_len, ints_app, ints_snoc, ints_take, ints_drop, ints_set, ints_rep, ints_one, ex_rd, dec_t, dec_f, beq_t, beq_f, bne_t, bne_f, not_t, not_f, List.length_set, List.length_append, List.length_cons, List.length_nil, List.length_take, List.length_drop, List.length_replicate, Int.toNat_natCast, List.nil_append, Bool.not_true, Bool.not_false, Wk_nil, Wk_cons, wk1_same, wk1_f, and_true, true_and, Bool.false_eq_true, Bool.true_eq_false, false_implies, forall_const]
  refine ⟨fun h => ?_, fun h => ?_⟩
  · rw [if_pos (by omega), if_pos (by omega), if_pos (by omega)]; rfl
  · rw [if_neg (by omega), if_neg (by omega), if_neg (by omega)]
    refine ⟨fun hs => ?_, fun hs => ?_⟩
    · have : decide ((0 : Int) < ((bigL (sv s l)).length : Nat)) = bigN (sv s l) := by
        unfold bigN
        rw [decide_eq_decide]
        have h1 : (bigL (sv s l)).length = 0 ↔ sv s l = 0 := by rw [List.length_eq_zero_iff, hz]
        have h2 : sv s l ≤ 0 := by unfold sv; rw [if_pos hs]; omega
        omega
      rw [this]
    · have : bigN (sv s l) = false := by
        unfold bigN sv
        rw [if_neg (by simp [hs])]
        simpa using h0
      rw [this]
end Go.Proofs.YtejefchehdifhaaGreatDoor.Ev
end
section
set_option linter.unusedVariables false
set_option maxRecDepth 100000
namespace Go.Proofs.YtejefchehdifhaaGreatDoor.Ev
open Go
def ref01_Sound_lv : List Nat → Keep := lvOf [([0, 1, 0, 1, 1, 1], ⟨26, 0, [], false, false⟩)]
def ref01_Sound_S0 (x0 : Bool) (x1 : List (List FV)) (i : Int) : St := (St.mk [TV.und, (TV.one (AV.ptr 0 0 0 0)), TV.und, (TV.one (AV.fz (FV.int .i64 (((List.length x1) : Nat) : Int)))), (TV.one (AV.fz (FV.int .i64 i))), TV.und, TV.und, TV.und, TV.und, TV.und, TV.und, TV.und, TV.und, TV.und, TV.und, TV.und, TV.und, TV.und, TV.und, TV.und, TV.und, TV.und, TV.und, TV.und, TV.und, TV.und, TV.und, TV.und, TV.und, TV.und, TV.und, TV.und, TV.und, TV.und, TV.und, TV.und, TV.und, TV.und, TV.und, TV.und] [(Ob.g 36 [(AV.fz (FV.bool x0)), (AV.fz (FV.sl 1 x1))])])
def ref01_Sound_L0 (R : TV → List Ob → Prop) (x0 : Bool) (x1 : List (List FV)) (i : Int) : Prop := LoopAt Tryz.prog (modeOf [] []) ref01_Sound_lv Tryz.f96 none R [1, 1, 1, 0, 1, 0] (ref01_Sound_S0 x0 x1 i)
def ref01_Sound_R0 (R : TV → List Ob → Prop) (x0 : Bool) (x1 : List (List FV)) (i : Int) : Prop :=
  ((((decide (i < (((List.length x1) : Nat) : Int))) = true) → (((0 : Int) ≤ i) ∧ (∃ n4 : Int, (((x1)[(Int.toNat i)]? = (some [(FV.int .u32 n4)])) ∧ ((((decide ((1000000000 : Int) ≤ n4)) = true) → (R (TV.one (AV.fz (FV.bool false))) [])) ∧ (((decide ((1000000000 : Int) ≤ n4)) = false) → (ref01_Sound_L0 R x0 x1 (IntKind.wrap .i64 (i + 1))))))))) ∧ (((decide (i < (((List.length x1) : Nat) : Int))) = false) → (((((((List.length x1) : Nat) : Int) == 0) = true) → (R (TV.one (AV.fz (FV.bool true))) [])) ∧ ((((((List.length x1) : Nat) : Int) == 0) = false) → (((0 : Int) ≤ (IntKind.wrap .i64 ((((List.length x1) : Nat) : Int) - 1))) ∧ (∃ n5 : Int, (((x1)[(Int.toNat (IntKind.wrap .i64 ((((List.length x1) : Nat) : Int) - 1)))]? = (some [(FV.int .u32 n5)])) ∧ (R (TV.one (AV.fz (FV.bool (n5 != 0)))) []))))))))
theorem ref01_Sound_l0 {R : TV → List Ob → Prop} {x0 : Bool} {x1 : List (List FV)} {i : Int} (h : ref01_Sound_R0 R x0 x1 i) : ref01_Sound_L0 R x0 x1 i :=
  LoopAt.by_tr (by kernel_rfl) (by kernel_rfl) h
def ref01_Sound_H (R : TV → List Ob → Prop) (x0 : Bool) (x1 : List (List FV)) : Prop :=
  ((((decide ((64 : Int) < (((List.length x1) : Nat) : Int))) = true) → (R (TV.one (AV.fz (FV.bool false))) [])) ∧ (((decide ((64 : Int) < (((List.length x1) : Nat) : Int))) = false) → (((((((List.length x1) : Nat) : Int) == 0) = true) → (((x0 = true) → (R (TV.one (AV.fz (FV.bool false))) [])) ∧ ((x0 = false) → (ref01_Sound_L0 R x0 x1 0)))) ∧ ((((((List.length x1) : Nat) : Int) == 0) = false) → (ref01_Sound_L0 R x0 x1 0)))))
theorem ref01_Sound_fn (x0 : Bool) (x1 : List (List FV)) {r : TV} {h : List Ob} (H : ref01_Sound_H (fun r' h' => r' = r ∧ h' = h) x0 x1) : Fn Tryz.prog 96 [(TV.agg [(AV.fz (FV.bool x0)), (AV.fz (FV.sl 1 x1))])] [] r h :=
  Fn.by_tr (M := (modeOf [] [])) (lv := ref01_Sound_lv) (own := none) (F := Tryz.f96) (by kernel_rfl) (by kernel_rfl) (by first | decide | simp) (fun _ _ h => h) (by kernel_rfl) H
def ref01_trim_lv : List Nat → Keep := lvOf [([0, 0, 1, 1], ⟨9, 0, [], false, false⟩)]
def ref01_trim_S0 (d : List (List FV)) (n1 : Int) : St := (St.mk [(TV.one (AV.fz (FV.sl 1 d))), TV.und, TV.und, (TV.one (AV.fz (FV.int .i64 n1))), TV.und, TV.und, TV.und, TV.und, TV.und, TV.und, TV.und, TV.und, TV.und, TV.und, TV.und, TV.und, TV.und, TV.und, TV.und, TV.und, TV.und] [])
def ref01_trim_L0 (R : TV → List Ob → Prop) (d : List (List FV)) (n1 : Int) : Prop := LoopAt Tryz.prog (modeOf [] []) ref01_trim_lv Tryz.f121 none R [1, 1, 0, 0] (ref01_trim_S0 d n1)
def ref01_trim_R0 (R : TV → List Ob → Prop) (d : List (List FV)) (n1 : Int) : Prop :=
  ((((decide ((0 : Int) < n1)) = true) → (((0 : Int) ≤ (IntKind.wrap .i64 (n1 - 1))) ∧ (∃ n3 : Int, (((d)[(Int.toNat (IntKind.wrap .i64 (n1 - 1)))]? = (some [(FV.int .u8 n3)])) ∧ ((((n3 == 0) = true) → (ref01_trim_L0 R d (IntKind.wrap .i64 (n1 - 1)))) ∧ (((n3 == 0) = false) → ((((0 : Int) ≤ n1) ∧ (n1 ≤ (((List.length d) : Nat) : Int))) ∧ (R (TV.one (AV.fz (FV.sl 1 (List.take (Int.toNat n1) d)))) [])))))))) ∧ (((decide ((0 : Int) < n1)) = false) → ((((0 : Int) ≤ n1) ∧ (n1 ≤ (((List.length d) : Nat) : Int))) ∧ (R (TV.one (AV.fz (FV.sl 1 (List.take (Int.toNat n1) d)))) []))))
theorem ref01_trim_l0 {R : TV → List Ob → Prop} {d : List (List FV)} {n1 : Int} (h : ref01_trim_R0 R d n1) : ref01_trim_L0 R d n1 :=
  LoopAt.by_tr (by kernel_rfl) (by kernel_rfl) h
def ref01_trim_H (R : TV → List Ob → Prop) (d : List (List FV)) : Prop :=
  (ref01_trim_L0 R d (((List.length d) : Nat) : Int))
theorem ref01_trim_fn (d : List (List FV)) {r : TV} {h : List Ob} (H : ref01_trim_H (fun r' h' => r' = r ∧ h' = h) d) : Fn Tryz.prog 121 [(TV.one (AV.fz (FV.sl 1 d)))] [] r h :=
  Fn.by_tr (M := (modeOf [] [])) (lv := ref01_trim_lv) (own := none) (F := Tryz.f121) (by kernel_rfl) (by kernel_rfl) (by first | decide | simp) (fun _ _ h => h) (by kernel_rfl) H
def ref01_Make_lv : List Nat → Keep := lvOf [([0, 1, 0, 1, 1, 1, 1], ⟨465, 0, [], false, false⟩), ([0, 1, 0, 1, 0, 0, 1, 0, 0, 1, 0, 1, 1, 1, 1], ⟨2001, 0, [], false, false⟩)]
def ref01_Make_S0 (neg : Bool) (es : List (List FV)) (i : Int) (o : List (List FV)) : St := (St.mk [(TV.one (AV.fz (FV.bool neg))), TV.und, TV.und, TV.und, (TV.one (AV.ptr 0 0 0 0)), TV.und, (TV.one (AV.fz (FV.sl 1 es))), (TV.one (AV.ofl 1 1)), (TV.one (AV.fz (FV.int .i64 i))), TV.und, TV.und, TV.und, TV.und, TV.und, TV.und, TV.und, TV.und, TV.und, TV.und, TV.und, TV.und, TV.und, TV.und, TV.und, TV.und, TV.und, TV.und, TV.und, TV.und, TV.und, TV.und, TV.und, TV.und, TV.und, TV.und, TV.und, TV.und, TV.und, TV.und, TV.und, TV.und, TV.und, TV.und, TV.und, TV.und, TV.und, TV.und, TV.und, TV.und, TV.und, TV.und, TV.und, TV.und, TV.und, TV.und, TV.und] [(Ob.g 36 [(AV.fz (FV.bool false)), (AV.ofl 1 2)]), (Ob.f 0 1 o), (Ob.f 0 1 ([] : List (List FV)))])
def ref01_Make_L0 (R : TV → List Ob → Prop) (neg : Bool) (es : List (List FV)) (i : Int) (o : List (List FV)) : Prop := LoopAt Tryz.prog (modeOf [] []) ref01_Make_lv Tryz.f90 none R [1, 1, 1, 1, 0, 1, 0] (ref01_Make_S0 neg es i o)
def ref01_Make_S1 (neg : Bool) (es : List (List FV)) (i1 : Int) (x : Int) (k : Int) (o1 : List (List FV)) : St := (St.mk [(TV.one (AV.fz (FV.bool neg))), TV.und, TV.und, TV.und, (TV.one (AV.ptr 0 0 0 0)), TV.und, (TV.one (AV.fz (FV.sl 1 es))), (TV.one (AV.ofl 1 1)), (TV.one (AV.fz (FV.int .i64 i1))), (TV.one (AV.fz (FV.int .u32 x))), (TV.one (AV.fz (FV.int .i64 k))), TV.und, TV.und, TV.und, TV.und, TV.und, TV.und, TV.und, TV.und, TV.und, TV.und, TV.und, TV.und, TV.und, TV.und, TV.und, TV.und, TV.und, TV.und, TV.und, TV.und, TV.und, TV.und, TV.und, TV.und, TV.und, TV.und, TV.und, TV.und, TV.und, TV.und, TV.und, TV.und, TV.und, TV.und, TV.und, TV.und, TV.und, TV.und, TV.und, TV.und, TV.und, TV.und, TV.und, TV.und, TV.und] [(Ob.g 36 [(AV.fz (FV.bool false)), (AV.ofl 1 2)]), (Ob.f 0 1 o1), (Ob.f 0 1 ([] : List (List FV)))])
def ref01_Make_L1 (R : TV → List Ob → Prop) (neg : Bool) (es : List (List FV)) (i1 : Int) (x : Int) (k : Int) (o1 : List (List FV)) : Prop := LoopAt Tryz.prog (modeOf [] []) ref01_Make_lv Tryz.f90 none R [1, 1, 1, 1, 0, 1, 0, 0, 1, 0, 0, 1, 0, 1, 0] (ref01_Make_S1 neg es i1 x k o1)
def ref01_Make_R0 (R : TV → List Ob → Prop) (neg : Bool) (es : List (List FV)) (i : Int) (o : List (List FV)) : Prop :=
  ((((decide (i < (((List.length es) : Nat) : Int))) = true) → (ref01_Make_L1 R neg es i 0 8 o)) ∧ (((decide (i < (((List.length es) : Nat) : Int))) = false) → (((neg = true) → (R (TV.tup [(true, [(AV.fz (FV.bool (decide ((0 : Int) < (((List.length es) : Nat) : Int))))), (AV.fz (FV.sl 1 o))]), (false, [(AV.fz (FV.bool true))])]) [])) ∧ ((neg = false) → (R (TV.tup [(true, [(AV.fz (FV.bool false)), (AV.fz (FV.sl 1 o))]), (false, [(AV.fz (FV.bool true))])]) [])))))
theorem ref01_Make_l0 {R : TV → List Ob → Prop} {neg : Bool} {es : List (List FV)} {i : Int} {o : List (List FV)} (h : ref01_Make_R0 R neg es i o) : ref01_Make_L0 R neg es i o :=
  LoopAt.by_tr (by kernel_rfl) (by kernel_rfl) h
def ref01_Make_R1 (R : TV → List Ob → Prop) (neg : Bool) (es : List (List FV)) (i1 : Int) (x : Int) (k : Int) (o1 : List (List FV)) : Prop :=
  ((((decide ((0 : Int) ≤ k)) = true) → ((((decide ((IntKind.wrap .i64 (i1 + k)) < (((List.length es) : Nat) : Int))) = true) → (((0 : Int) ≤ (IntKind.wrap .i64 (i1 + k))) ∧ (∃ n3 : Int, (((es)[(Int.toNat (IntKind.wrap .i64 (i1 + k)))]? = (some [(FV.int .u8 n3)])) ∧ (ref01_Make_L1 R neg es i1 (IntKind.wrap .u32 ((IntKind.wrap .u32 (x * 10)) + (IntKind.wrap .u32 n3))) (IntKind.wrap .i64 (k - 1)) o1))))) ∧ (((decide ((IntKind.wrap .i64 (i1 + k)) < (((List.length es) : Nat) : Int))) = false) → (ref01_Make_L1 R neg es i1 (IntKind.wrap .u32 (x * 10)) (IntKind.wrap .i64 (k - 1)) o1)))) ∧ (((decide ((0 : Int) ≤ k)) = false) → (((((List.length o1) + (List.length [[(FV.int .u32 x)]])) * 4) ≤ 220000000000000) ∧ (ref01_Make_L0 R neg es (IntKind.wrap .i64 (i1 + 9)) (o1 ++ [[(FV.int .u32 x)]])))))
theorem ref01_Make_l1 {R : TV → List Ob → Prop} {neg : Bool} {es : List (List FV)} {i1 : Int} {x : Int} {k : Int} {o1 : List (List FV)} (h : ref01_Make_R1 R neg es i1 x k o1) : ref01_Make_L1 R neg es i1 x k o1 :=
  LoopAt.by_tr (by kernel_rfl) (by kernel_rfl) h
def ref01_Make_H (R : TV → List Ob → Prop) (neg : Bool) (digits : List (List FV)) : Prop :=
  (∃ es1 : List (List FV), ((Fn Tryz.prog 121 [(TV.one (AV.fz (FV.sl 1 digits)))] [] (TV.one (AV.fz (FV.sl 1 es1))) []) ∧ ((((decide ((576 : Int) < (((List.length es1) : Nat) : Int))) = true) → (R (TV.tup [(true, [(AV.fz (FV.bool false)), (AV.fz (FV.sl 1 ([] : List (List FV))))]), (false, [(AV.fz (FV.bool false))])]) [])) ∧ (((decide ((576 : Int) < (((List.length es1) : Nat) : Int))) = false) → (ref01_Make_L0 R neg es1 0 ([] : List (List FV)))))))
theorem ref01_Make_fn (neg : Bool) (digits : List (List FV)) {r : TV} {h : List Ob} (H : ref01_Make_H (fun r' h' => r' = r ∧ h' = h) neg digits) : Fn Tryz.prog 90 [(TV.one (AV.fz (FV.bool neg))), (TV.one (AV.fz (FV.sl 1 digits)))] [] r h :=
  Fn.by_tr (M := (modeOf [] [])) (lv := ref01_Make_lv) (own := none) (F := Tryz.f90) (by kernel_rfl) (by kernel_rfl) (by first | decide | simp) (fun _ _ h => h) (by kernel_rfl) H
def ref01_Parse_lv : List Nat → Keep := lvOf [([0, 1, 0, 1, 1, 1, 1, 1], ⟨117, 0, [], false, false⟩)]
def ref01_Parse_S0 (s : ByteArray) (from_ : Int) (i : Int) (o : List (List FV)) : St := (St.mk [(TV.one (AV.fz (FV.str s))), TV.und, (TV.one (AV.ptr 0 0 0 0)), TV.und, (TV.one (AV.fz (FV.int .i64 from_))), (TV.one (AV.ofl 1 1)), (TV.one (AV.fz (FV.int .i64 i))), TV.und, TV.und, TV.und, TV.und, TV.und, TV.und, TV.und, TV.und, TV.und, TV.und, TV.und, TV.und, TV.und, TV.und, TV.und, TV.und, TV.und, TV.und, TV.und, TV.und, TV.und, TV.und, TV.und, TV.und, TV.und, TV.und, TV.und, TV.und, TV.und, TV.und, TV.und, TV.und, TV.und, TV.und, TV.und, TV.und, TV.und, TV.und, TV.und, TV.und, TV.und, TV.und, TV.und, TV.und, TV.und, TV.und, TV.und, TV.und, TV.und, TV.und, TV.und] [(Ob.g 36 [(AV.fz (FV.bool false)), (AV.ofl 1 2)]), (Ob.f 0 1 o), (Ob.f 0 1 ([] : List (List FV)))])
def ref01_Parse_L0 (R : TV → List Ob → Prop) (s : ByteArray) (from_ : Int) (i : Int) (o : List (List FV)) : Prop := LoopAt Tryz.prog (modeOf [] []) ref01_Parse_lv Tryz.f53 none R [1, 1, 1, 1, 1, 0, 1, 0] (ref01_Parse_S0 s from_ i o)
def ref01_Parse_R0 (R : TV → List Ob → Prop) (s : ByteArray) (from_ : Int) (i : Int) (o : List (List FV)) : Prop :=
  ((((decide (from_ ≤ i)) = true) → (((0 : Int) ≤ i) ∧ (∃ c14 : UInt8, ((((ByteArray.data s))[(Int.toNat i)]? = (some c14)) ∧ ((((decide ((((UInt8.toNat c14) : Nat) : Int) < 48)) = true) → (R (TV.tup [(true, [(AV.fz (FV.bool false)), (AV.fz (FV.sl 1 ([] : List (List FV))))]), (false, [(AV.fz (FV.bool false))])]) [])) ∧ (((decide ((((UInt8.toNat c14) : Nat) : Int) < 48)) = false) → (((0 : Int) ≤ i) ∧ (∃ c15 : UInt8, ((((ByteArray.data s))[(Int.toNat i)]? = (some c15)) ∧ ((((decide ((57 : Int) < (((UInt8.toNat c15) : Nat) : Int))) = true) → (R (TV.tup [(true, [(AV.fz (FV.bool false)), (AV.fz (FV.sl 1 ([] : List (List FV))))]), (false, [(AV.fz (FV.bool false))])]) [])) ∧ (((decide ((57 : Int) < (((UInt8.toNat c15) : Nat) : Int))) = false) → (((0 : Int) ≤ i) ∧ (∃ c16 : UInt8, ((((ByteArray.data s))[(Int.toNat i)]? = (some c16)) ∧ (((((List.length o) + (List.length [[(FV.int .u8 (IntKind.wrap .u8 ((((UInt8.toNat c16) : Nat) : Int) - 48)))]])) * 1) ≤ 220000000000000) ∧ (ref01_Parse_L0 R s from_ (IntKind.wrap .i64 (i - 1)) (o ++ [[(FV.int .u8 (IntKind.wrap .u8 ((((UInt8.toNat c16) : Nat) : Int) - 48)))]]))))))))))))))))) ∧ (((decide (from_ ≤ i)) = false) → (((0 : Int) ≤ 0) ∧ (∃ c17 : UInt8, ((((ByteArray.data s))[(Int.toNat 0)]? = (some c17)) ∧ (∃ b6 : Bool, (∃ es3 : List (List FV), (∃ b7 : Bool, ((Fn Tryz.prog 90 [(TV.one (AV.fz (FV.bool ((((UInt8.toNat c17) : Nat) : Int) == 45)))), (TV.one (AV.fz (FV.sl 1 o)))] [] (TV.tup [(true, [(AV.fz (FV.bool b6)), (AV.fz (FV.sl 1 es3))]), (false, [(AV.fz (FV.bool b7))])]) []) ∧ (R (TV.tup [(true, [(AV.fz (FV.bool b6)), (AV.fz (FV.sl 1 es3))]), (false, [(AV.fz (FV.bool b7))])]) []))))))))))
theorem ref01_Parse_l0 {R : TV → List Ob → Prop} {s : ByteArray} {from_ : Int} {i : Int} {o : List (List FV)} (h : ref01_Parse_R0 R s from_ i o) : ref01_Parse_L0 R s from_ i o :=
  LoopAt.by_tr (by kernel_rfl) (by kernel_rfl) h
def ref01_Parse_H (R : TV → List Ob → Prop) (s : ByteArray) : Prop :=
  ((((decide ((0 : Int) < (((ByteArray.size s) : Nat) : Int))) = true) → (((0 : Int) ≤ 0) ∧ (∃ c14 : UInt8, ((((ByteArray.data s))[(Int.toNat 0)]? = (some c14)) ∧ (((((((UInt8.toNat c14) : Nat) : Int) == 45) = true) → (((((1 : Int) == (((ByteArray.size s) : Nat) : Int)) = true) → (R (TV.tup [(true, [(AV.fz (FV.bool false)), (AV.fz (FV.sl 1 ([] : List (List FV))))]), (false, [(AV.fz (FV.bool false))])]) [])) ∧ ((((1 : Int) == (((ByteArray.size s) : Nat) : Int)) = false) → (ref01_Parse_L0 R s 1 (IntKind.wrap .i64 ((((ByteArray.size s) : Nat) : Int) - 1)) ([] : List (List FV)))))) ∧ ((((((UInt8.toNat c14) : Nat) : Int) == 45) = false) → (((0 : Int) ≤ 0) ∧ (∃ c15 : UInt8, ((((ByteArray.data s))[(Int.toNat 0)]? = (some c15)) ∧ (((((((UInt8.toNat c15) : Nat) : Int) == 43) = true) → (((((1 : Int) == (((ByteArray.size s) : Nat) : Int)) = true) → (R (TV.tup [(true, [(AV.fz (FV.bool false)), (AV.fz (FV.sl 1 ([] : List (List FV))))]), (false, [(AV.fz (FV.bool false))])]) [])) ∧ ((((1 : Int) == (((ByteArray.size s) : Nat) : Int)) = false) → (ref01_Parse_L0 R s 1 (IntKind.wrap .i64 ((((ByteArray.size s) : Nat) : Int) - 1)) ([] : List (List FV)))))) ∧ ((((((UInt8.toNat c15) : Nat) : Int) == 43) = false) → (((((0 : Int) == (((ByteArray.size s) : Nat) : Int)) = true) → (R (TV.tup [(true, [(AV.fz (FV.bool false)), (AV.fz (FV.sl 1 ([] : List (List FV))))]), (false, [(AV.fz (FV.bool false))])]) [])) ∧ ((((0 : Int) == (((ByteArray.size s) : Nat) : Int)) = false) → (ref01_Parse_L0 R s 0 (IntKind.wrap .i64 ((((ByteArray.size s) : Nat) : Int) - 1)) ([] : List (List FV)))))))))))))))) ∧ (((decide ((0 : Int) < (((ByteArray.size s) : Nat) : Int))) = false) → (((((0 : Int) == (((ByteArray.size s) : Nat) : Int)) = true) → (R (TV.tup [(true, [(AV.fz (FV.bool false)), (AV.fz (FV.sl 1 ([] : List (List FV))))]), (false, [(AV.fz (FV.bool false))])]) [])) ∧ ((((0 : Int) == (((ByteArray.size s) : Nat) : Int)) = false) → (ref01_Parse_L0 R s 0 (IntKind.wrap .i64 ((((ByteArray.size s) : Nat) : Int) - 1)) ([] : List (List FV)))))))
theorem ref01_Parse_fn (s : ByteArray) {r : TV} {h : List Ob} (H : ref01_Parse_H (fun r' h' => r' = r ∧ h' = h) s) : Fn Tryz.prog 53 [(TV.one (AV.fz (FV.str s)))] [] r h :=
  Fn.by_tr (M := (modeOf [] [])) (lv := ref01_Parse_lv) (own := none) (F := Tryz.f53) (by kernel_rfl) (by kernel_rfl) (by first | decide | simp) (fun _ _ h => h) (by kernel_rfl) H
end Go.Proofs.YtejefchehdifhaaGreatDoor.Ev
end
section
set_option linter.unusedVariables false
set_option linter.unusedSimpArgs false
namespace Go.Proofs.YtejefchehdifhaaGreatDoor.Ev
open Go
theorem rtrim_loop (R : TV → List Ob → Prop) (d : List Int) (hd : d.length ≤ 140737488355328) (hL : Lim 10 d) (hR : R (fzS .u8 (digs 10 (val 10 d).toNat)) []) : ∀ n : Nat, n ≤ d.length → val 10 (d.take n) = val 10 d → ref01_trim_L0 R (ints .u8 d) n
  | 0, _, hv => by
    refine ref01_trim_l0 ?_
    unfold ref01_trim_R0
    simp only [ints_len, ints_app, ints_snoc, ints_take, ints_drop, ints_set, ints_rep, ints_one, ex_rd, dec_t, dec_f, beq_t, beq_f, bne_t, bne_f, not_t, not_f, List.length_set, List.length_append, List.length_cons, List.length_nil, List.length_take, List.length_drop, List.length_replicate, Int.toNat_natCast, List.nil_append, Bool.not_true, Bool.not_false, Wk_nil, Wk_cons, wk1_same, wk1_f, and_true, true_and, Bool.false_eq_true, Bool.true_eq_false, false_implies, forall_const]
    refine ⟨fun h => by omega, fun _ => ⟨by omega, ?_⟩⟩
    rw [← hv] at hR
    simp only [List.take_zero, val] at hR ⊢
    rw [show Int.toNat 0 = 0 from rfl, digs_zero] at hR
    exact hR
  | n + 1, hn, hv => by
    refine ref01_trim_l0 ?_
    have e1 : IntKind.wrap .i64 (((n + 1 : Nat) : Int) - 1) = (n : Int) := by rw [w64 (by omega) (by omega)]; omega
    unfold ref01_trim_R0
    simp only [ints_len, ints_app, ints_snoc, ints_take, ints_drop, ints_set, ints_rep, ints_one, ex_rd, dec_t, dec_f, beq_t, beq_f, bne_t, bne_f, not_t, not_f, List.length_set, List.length_append, List.length_cons, List.length_nil, List.length_take, List.length_drop, List.length_replicate, Int.toNat_natCast, List.nil_append, Bool.not_true, Bool.not_false, Wk_nil, Wk_cons, wk1_same, wk1_f, and_true, true_and, Bool.false_eq_true, Bool.true_eq_false, false_implies, forall_const, e1]
    have hs := val_take_succ 10 d n
    refine ⟨fun _ => ⟨by omega, by omega, fun h0 => ?_, fun h0 => ⟨by omega, ?_⟩⟩, fun h => by omega⟩
    · refine rtrim_loop R d hd hL hR n (by omega) ?_
      rw [h0, Int.mul_zero, Int.add_zero] at hs
      omega
    · have hnm : Norm (d.take (n + 1)) := norm_of_rd fun _ => by
        rw [List.length_take, Nat.min_eq_left hn, show n + 1 - 1 = n by omega]
        rw [rd_at _ n (by simp; omega), List.getElem_take, ← rd_at d n (by omega)]
        exact h0
      rw [← hv, digsT_eq (hL.take _) hnm] at hR
      exact hR
theorem rtrim_ok (d : List Int) (hd : d.length ≤ 140737488355328) (hL : Lim 10 d) : Fn Tryz.prog 121 [fzS .u8 d] [] (fzS .u8 (digs 10 (val 10 d).toNat)) [] := by
  refine ref01_trim_fn _ ?_
  unfold ref01_trim_H
  rw [ints_len]
  exact rtrim_loop _ d hd hL ⟨rfl, rfl⟩ d.length (Nat.le_refl _) (by rw [List.take_length])
theorem make_inner (neg : Bool) (d : List Int) (hd : d.length ≤ 1000000) (hL : Lim 10 d) (o : List Int) (ho : o.length ≤ 1000000) (i : Nat) (hi : i ≤ d.length) (R : TV → List Ob → Prop) : ∀ (t : Nat) (x : Int), t ≤ 9 → 0 ≤ x → x * 10 ^ t + 10 ^ t ≤ 1000000000 →
    ref01_Make_L0 R neg (ints .u8 d) ((i + 9 : Nat) : Int) (ints .u32 (o ++ [x * 10 ^ t + val 10 ((d.drop i).take t)])) → ref01_Make_L1 R neg (ints .u8 d) i x ((t : Int) - 1) (ints .u32 o)
  | 0, x, _, h0, h1, hr => by
    refine ref01_Make_l1 ?_
    have e1 : IntKind.wrap .i64 ((i : Int) + 9) = ((i + 9 : Nat) : Int) := w64 (by omega) (by omega)
    unfold ref01_Make_R1
    simp only [ints_len, ints_app, ints_snoc, ints_take, ints_drop, ints_set, ints_rep, ints_one, ex_rd, dec_t, dec_f, beq_t, beq_f, bne_t, bne_f, not_t, not_f, List.length_set, List.length_append, List.length_cons, List.length_nil, List.length_take, List.length_drop, List.length_replicate, Int.toNat_natCast, List.nil_append, Bool.not_true, Bool.not_false, Wk_nil, Wk_cons, wk1_same, wk1_f, and_true, true_and, Bool.false_eq_true, Bool.true_eq_false, false_implies, forall_const, e1]
    refine ⟨fun h => by omega, fun _ => ⟨by omega, ?_⟩⟩
    simpa [val] using hr
  | t + 1, x, ht, h0, h1, hr => by
    have hp : (10 : Int) ^ t ≤ 10 ^ 8 := pow_mono (by omega) (by omega)
    have hp0 : (0 : Int) < 10 ^ t := pow_pos' (by omega) t
    rw [Int.pow_succ] at h1
    have hx' : x * 10 + 10 ≤ 1000000000 := by
      have e : x * (10 ^ t * 10) + 10 ^ t * 10 = (x * 10 + 10) * 10 ^ t := by grind
      rw [e] at h1
      have : (x * 10 + 10) * 1 ≤ (x * 10 + 10) * 10 ^ t := Int.mul_le_mul_of_nonneg_left (by omega) (by omega)
      omega
    have e1 : IntKind.wrap .i64 ((i : Int) + (((t + 1 : Nat) : Int) - 1)) = ((i + t : Nat) : Int) := by rw [w64 (by omega) (by omega)]; omega
    have e2 : IntKind.wrap .i64 ((((t + 1 : Nat) : Int) - 1) - 1) = (t : Int) - 1 := by rw [w64 (by omega) (by omega)]; omega
    have e3 : IntKind.wrap .u32 (x * 10) = x * 10 := wu32 (by omega) (by omega)
    refine ref01_Make_l1 ?_
    unfold ref01_Make_R1
    simp only [ints_len, ints_app, ints_snoc, ints_take, ints_drop, ints_set, ints_rep, ints_one, ex_rd, dec_t, dec_f, beq_t, beq_f, bne_t, bne_f, not_t, not_f, List.length_set, List.length_append, List.length_cons, List.length_nil, List.length_take, List.length_drop, List.length_replicate, Int.toNat_natCast, List.nil_append, Bool.not_true, Bool.not_false, Wk_nil, Wk_cons, wk1_same, wk1_f, and_true, true_and, Bool.false_eq_true, Bool.true_eq_false, false_implies, forall_const, e1, e2, e3]
    have hg := hL.rd (by omega) (i + t)
    refine ⟨fun _ => ⟨fun hin => ⟨by omega, by omega, ?_⟩, fun hin => ?_⟩, fun h => by omega⟩
    · have e4 : IntKind.wrap .u32 (rd d (i + t)) = rd d (i + t) := wu32 (by omega) (by omega)
      have e5 : IntKind.wrap .u32 (x * 10 + rd d (i + t)) = x * 10 + rd d (i + t) := wu32 (by omega) (by omega)
      rw [e4, e5]
      refine make_inner neg d hd hL o ho i hi R t (x * 10 + rd d (i + t)) (by omega) (by omega) ?_ ?_
      · have e : (x * 10 + rd d (i + t)) * 10 ^ t + 10 ^ t = (x * 10 + (rd d (i + t) + 1)) * 10 ^ t := by grind
        have e2 : x * (10 ^ t * 10) + 10 ^ t * 10 = (x * 10 + 10) * 10 ^ t := by grind
        rw [e]
        rw [e2] at h1
        have : (x * 10 + (rd d (i + t) + 1)) * 10 ^ t ≤ (x * 10 + 10) * 10 ^ t := Int.mul_le_mul_of_nonneg_right (by omega) (Int.le_of_lt hp0)
        omega
      · have e3 : (d.drop i).take (t + 1) = (d.drop i).take t ++ [rd d (i + t)] := by
          rw [List.take_succ_eq_append_getElem (by simp; omega), rd_at d (i + t) (by omega)]
          simp
        rw [e3, val_snoc, List.length_take, List.length_drop, Nat.min_eq_left (by omega), Int.pow_succ] at hr
        have e4 : x * (10 ^ t * 10) + (val 10 ((d.drop i).take t) + 10 ^ t * rd d (i + t)) = (x * 10 + rd d (i + t)) * 10 ^ t + val 10 ((d.drop i).take t) := by grind
        rw [e4] at hr
        exact hr
    · refine make_inner neg d hd hL o ho i hi R t (x * 10) (by omega) (by omega) ?_ ?_
      · have e2 : x * (10 ^ t * 10) = x * 10 * 10 ^ t := by grind
        omega
      · have e3 : (d.drop i).take (t + 1) = (d.drop i).take t := by
          rw [List.take_of_length_le (by simp; omega), List.take_of_length_le (by simp; omega)]
        rw [e3, Int.pow_succ] at hr
        have e4 : x * (10 ^ t * 10) = x * 10 * 10 ^ t := by grind
        rw [e4] at hr
        exact hr
theorem make_loop (neg : Bool) (d : List Int) (hd : d.length ≤ 1000000) (hL : Lim 10 d) (hn : Norm d) (R : TV → List Ob → Prop) (hR : R (.tup [(true, [.fz (.bool (neg && decide (0 < d.length))), .fz (.sl 1 (ints .u32 (digs 1000000000 (val 10 d).toNat)))]), (false, [.fz (.bool true)])]) []) :
    ∀ (c i : Nat) (o : List Int), d.length ≤ i + c → i ≤ d.length + 8 → i = 9 * o.length → Lim 1000000000 o → val 1000000000 o = val 10 (d.take i) → (d.length ≤ i → Norm o) → ref01_Make_L0 R neg (ints .u8 d) i (ints .u32 o)
  | c, i, o, hc, hi8, h9, hlim, hv, hnx => by
    by_cases hin : i < d.length
    · cases c with
      | zero => omega
      | succ c =>
        obtain ⟨w, hw⟩ : ∃ w, w = val 10 ((d.drop i).take 9) := ⟨_, rfl⟩
        have hLd : Lim 10 ((d.drop i).take 9) := (hL.drop i).take 9
        have hw0 : 0 ≤ w := by rw [hw]; exact val_nonneg (by omega) hLd
        have hw1 : w < 1000000000 := by
          have h1 := val_lt (B := 10) (by omega) hLd
          have h2 : (10 : Int) ^ ((d.drop i).take 9).length ≤ 10 ^ 9 := pow_mono (by omega) (by simp; omega)
          omega
        have htk : d.take (i + 9) = d.take i ++ (d.drop i).take 9 := by rw [List.take_add]
        have g := make_loop neg d hd hL hn R hR c (i + 9) (o ++ [w]) (by omega) (by omega) (by simp; omega) (hlim.snoc hw0 hw1) (by
          rw [val_snoc, hv, htk, val_append, List.length_take, Nat.min_eq_left (by omega), ← pow9, ← h9, hw]) (fun hge => by
          refine norm_of_rd fun _ => ?_
          rw [List.length_append, List.length_singleton, Nat.add_sub_cancel, rd_at _ _ (by simp)]
          simp only [List.getElem_append_right (Nat.le_refl _), Nat.sub_self, List.getElem_cons_zero]
          intro hw'
          have hdn : Norm ((d.drop i).take 9) := by
            rw [List.take_of_length_le (by simp; omega)]
            intro h0
            rw [List.getLast_drop]
            exact hn _
          have := (val_zero_iff (B := 10) (by omega) hLd hdn).1 (by rw [← hw]; exact hw')
          have hlen : ((d.drop i).take 9).length = 0 := by rw [this]; rfl
          simp at hlen
          omega)
        have g2 := make_inner neg d hd hL o (by omega) i (by omega) R 9 0 (by omega) (by omega) (by omega) (by rw [Int.zero_mul, Int.zero_add, ← hw]; exact g)
        refine ref01_Make_l0 ?_
        unfold ref01_Make_R0
        simp only [ints_len, ints_app, ints_snoc, ints_take, ints_drop, ints_set, ints_rep, ints_one, ex_rd, dec_t, dec_f, beq_t, beq_f, bne_t, bne_f, not_t, not_f, List.length_set, List.length_append, List.length_cons, List.length_nil, List.length_take, List.length_drop, List.length_replicate, Int.toNat_natCast, List.nil_append, Bool.not_true, Bool.not_false, Wk_nil, Wk_cons, wk1_same, wk1_f, and_true, true_and, Bool.false_eq_true, Bool.true_eq_false, false_implies, forall_const]
        exact ⟨fun _ => g2, fun h => by omega⟩
    · rw [List.take_of_length_le (by omega)] at hv
      have ho := hnx (by omega)
      have e : digs 1000000000 (val 10 d).toNat = o := by rw [← hv]; exact digsB_eq hlim ho
      rw [e] at hR
      refine ref01_Make_l0 ?_
      unfold ref01_Make_R0
      simp only [ints_len, ints_app, ints_snoc, ints_take, ints_drop, ints_set, ints_rep, ints_one, ex_rd, dec_t, dec_f, beq_t, beq_f, bne_t, bne_f, not_t, not_f, List.length_set, List.length_append, List.length_cons, List.length_nil, List.length_take, List.length_drop, List.length_replicate, Int.toNat_natCast, List.nil_append, Bool.not_true, Bool.not_false, Wk_nil, Wk_cons, wk1_same, wk1_f, and_true, true_and, Bool.false_eq_true, Bool.true_eq_false, false_implies, forall_const]
      refine ⟨fun h => by omega, fun _ => ⟨fun hs => ?_, fun hs => ?_⟩⟩
      · subst hs
        have : decide ((0 : Int) < (d.length : Int)) = decide (0 < d.length) := by rw [decide_eq_decide]; omega
        rw [this]
        simpa using hR
      · subst hs
        simpa using hR
def mkS (s : Bool) (v : Int) : Bool := if 576 < (digs 10 v.toNat).length then false else s && decide (0 < v)
def mkL (v : Int) : List Int := if 576 < (digs 10 v.toNat).length then [] else digs 1000000000 v.toNat
def mkB (v : Int) : Bool := if 576 < (digs 10 v.toNat).length then false else true
theorem make_ok (s : Bool) (d : List Int) (hd : d.length ≤ 140737488355328) (hL : Lim 10 d) :
    Fn Tryz.prog 90 [fzB s, fzS .u8 d] [] (.tup [(true, [.fz (.bool (mkS s (val 10 d))), .fz (.sl 1 (ints .u32 (mkL (val 10 d))))]), (false, [.fz (.bool (mkB (val 10 d)))])]) [] := by
  refine ref01_Make_fn _ _ ?_
  unfold ref01_Make_H
  have hv0 := val_nonneg (B := 10) (by omega) hL
  have hlen : (digs 10 (val 10 d).toNat).length ≤ d.length := by
    rw [digs_len (by omega)]
    have h1 := val_lt (B := 10) (by omega) hL
    have h2 : ((10 ^ d.length : Nat) : Int) = 10 ^ d.length := by rw [Int.natCast_pow]; rfl
    omega
  refine ⟨_, rtrim_ok d hd hL, ?_⟩
  unfold mkS mkL mkB
  simp only [ints_len, ints_app, ints_snoc, ints_take, ints_drop, ints_set, ints_rep, ints_one, ex_rd, dec_t, dec_f, beq_t, beq_f, bne_t, bne_f, not_t, not_f, List.length_set, List.length_append, List.length_cons, List.length_nil, List.length_take, List.length_drop, List.length_replicate, Int.toNat_natCast, List.nil_append, Bool.not_true, Bool.not_false, Wk_nil, Wk_cons, wk1_same, wk1_f, and_true, true_and, Bool.false_eq_true, Bool.true_eq_false, false_implies, forall_const]
  refine ⟨fun h => ?_, fun h => ?_⟩
  · rw [if_pos (by omega), if_pos (by omega), if_pos (by omega)]; rfl
  · rw [if_neg (by omega), if_neg (by omega), if_neg (by omega)]
    have e : (val 10 (digs 10 (val 10 d).toNat)) = val 10 d := by rw [digsT_val]; omega
    refine make_loop s (digs 10 (val 10 d).toNat) (by omega) (digsT_lim _) (digsT_norm _) _ ⟨?_, rfl⟩ _ 0 [] (Nat.le_of_eq (Nat.zero_add _).symm) (by omega) rfl (Lim.nil _) (by simp [val]) (fun _ => Norm.nil)
    rw [e]
    have e2 : decide (0 < (digs 10 (val 10 d).toNat).length) = decide (0 < val 10 d) := by
      rw [decide_eq_decide]
      have := digs_nil (B := 10) (by omega) (val 10 d).toNat
      rw [← List.length_eq_zero_iff] at this
      omega
    rw [e2]
end Go.Proofs.YtejefchehdifhaaGreatDoor.Ev
end
section
set_option linter.unusedVariables false
set_option linter.unusedSimpArgs false
namespace Go.Proofs.YtejefchehdifhaaGreatDoor.Ev
open Go
theorem rsound_loop (s : Bool) (l : List Int) (hl : l.length ≤ 100000000000000) (R : TV → List Ob → Prop) (hR : R (fzB (!l.any (fun x => decide (1000000000 ≤ x)) && (if l.length = 0 then true else rd l (l.length - 1) != 0))) []) :
    ∀ (d j : Nat), j + d = l.length → (l.take j).any (fun x => decide (1000000000 ≤ x)) = false → ref01_Sound_L0 R s (ints .u32 l) j
  | 0, j, hj, h => by
    rw [List.take_of_length_le (by omega)] at h
    rw [h] at hR
    refine ref01_Sound_l0 ?_
    unfold ref01_Sound_R0
    simp only [ints_len, ints_app, ints_snoc, ints_take, ints_drop, ints_set, ints_rep, ints_one, ex_rd, dec_t, dec_f, beq_t, beq_f, bne_t, bne_f, not_t, not_f, List.length_set, List.length_append, List.length_cons, List.length_nil, List.length_take, List.length_drop, List.length_replicate, Int.toNat_natCast, List.nil_append, Bool.not_true, Bool.not_false, Wk_nil, Wk_cons, wk1_same, wk1_f, and_true, true_and, Bool.false_eq_true, Bool.true_eq_false, false_implies, forall_const]
    refine ⟨fun h => by omega, fun _ => ⟨fun h0 => ?_, fun h0 => ?_⟩⟩
    · rw [if_pos (by omega)] at hR; exact hR
    · have e : IntKind.wrap .i64 ((l.length : Int) - 1) = ((l.length - 1 : Nat) : Int) := by rw [w64 (by omega) (by omega)]; omega
      rw [if_neg (by omega)] at hR
      simp only [e, Int.toNat_natCast]
      exact ⟨by omega, by omega, hR⟩
  | d + 1, j, hj, h => by
    refine ref01_Sound_l0 ?_
    unfold ref01_Sound_R0
    have e : IntKind.wrap .i64 ((j : Int) + 1) = ((j + 1 : Nat) : Int) := w64 (by omega) (by omega)
    simp only [ints_len, ints_app, ints_snoc, ints_take, ints_drop, ints_set, ints_rep, ints_one, ex_rd, dec_t, dec_f, beq_t, beq_f, bne_t, bne_f, not_t, not_f, List.length_set, List.length_append, List.length_cons, List.length_nil, List.length_take, List.length_drop, List.length_replicate, Int.toNat_natCast, List.nil_append, Bool.not_true, Bool.not_false, Wk_nil, Wk_cons, wk1_same, wk1_f, and_true, true_and, Bool.false_eq_true, Bool.true_eq_false, false_implies, forall_const, e]
    refine ⟨fun _ => ⟨by omega, by omega, fun hx => ?_, fun hx => ?_⟩, fun h => by omega⟩
    · have : l.any (fun x => decide (1000000000 ≤ x)) = true := by
        rw [List.any_eq_true]
        exact ⟨rd l j, by rw [rd_at l j (by omega)]; exact List.getElem_mem _, by simpa using hx⟩
      rw [this] at hR; exact hR
    · refine rsound_loop s l hl R hR d (j + 1) (by omega) ?_
      rw [List.take_succ_eq_append_getElem (by omega), List.any_append, h, ← rd_at l j (by omega)]
      simpa using hx
theorem rsound_ok (s : Bool) (l : List Int) (hl : l.length ≤ 100000000000000) : Fn Tryz.prog 96 [fzN s l] [] (fzB (sndB s l)) [] := by
  refine ref01_Sound_fn _ _ ?_
  unfold ref01_Sound_H sndB
  rw [all_lt]
  simp only [ints_len, ints_app, ints_snoc, ints_take, ints_drop, ints_set, ints_rep, ints_one, ex_rd, dec_t, dec_f, beq_t, beq_f, bne_t, bne_f, not_t, not_f, List.length_set, List.length_append, List.length_cons, List.length_nil, List.length_take, List.length_drop, List.length_replicate, Int.toNat_natCast, List.nil_append, Bool.not_true, Bool.not_false, Wk_nil, Wk_cons, wk1_same, wk1_f, and_true, true_and, Bool.false_eq_true, Bool.true_eq_false, false_implies, forall_const]
  refine ⟨fun h => ?_, fun h => ⟨fun h0 => ⟨fun hs => ?_, fun hs => ?_⟩, fun h0 => ?_⟩⟩
  · simp [show ¬ l.length ≤ 64 by omega]
  · have : l = [] := List.length_eq_zero_iff.1 (by omega)
    subst this
    simp [hs]
  · have : l = [] := List.length_eq_zero_iff.1 (by omega)
    subst this
    refine rsound_loop s [] hl _ ⟨?_, rfl⟩ 0 0 rfl rfl
    simp [hs]
  · refine rsound_loop s l hl _ ⟨?_, rfl⟩ l.length 0 (by omega) (by simp)
    simp [show l.length ≤ 64 by omega, show l.length ≠ 0 by omega]
set_option exponentiation.threshold 1000 in
theorem mk_out (s : Bool) (v : Int) (hv : 0 ≤ v) : (mkB v = true → outE (if s = true then -v else v) = 0 ∧ outS (if s = true then -v else v) = mkS s v ∧ outL (if s = true then -v else v) = mkL v) ∧
    (mkB v = false → outE (if s = true then -v else v) = 6 ∧ outS (if s = true then -v else v) = false ∧ outL (if s = true then -v else v) = []) := by
  have e : ((if s = true then -v else v)).natAbs = v.toNat := by split <;> omega
  have h1 := digs_len (B := 10) (by omega) v.toNat 576
  have h2 := bigL_len (if s = true then -v else v) 64
  rw [e] at h2
  have h3 : (10 : Nat) ^ 576 = 1000000000 ^ 64 := pow9N 64
  rw [h3] at h1
  unfold mkB mkS mkL outE outS outL
  by_cases hc : 576 < (digs 10 v.toNat).length
  · have : 64 < (bigL (if s = true then -v else v)).length := by omega
    rw [if_pos hc, if_pos hc, if_pos hc, if_pos this, if_pos this, if_pos this]
    exact ⟨(fun h => by cases h), fun _ => ⟨rfl, rfl, rfl⟩⟩
  · have : ¬ 64 < (bigL (if s = true then -v else v)).length := by omega
    rw [if_neg hc, if_neg hc, if_neg hc, if_neg this, if_neg this, if_neg this]
    refine ⟨fun _ => ⟨rfl, ?_, ?_⟩, (fun h => by cases h)⟩
    · unfold bigN
      cases s <;> simp <;> omega
    · unfold bigL; rw [e]
end Go.Proofs.YtejefchehdifhaaGreatDoor.Ev
end
section
set_option linter.unusedVariables false
set_option linter.unusedSimpArgs false
namespace Go.Proofs.YtejefchehdifhaaGreatDoor.Ev
open Go Go.Proofs
def bs (s : ByteArray) : List Int := s.data.toList.map fun c => (c.toNat : Int)
def Bytes (l : List Int) : Prop := Lim 256 l
theorem Bytes.nil : Bytes [] := Lim.nil _
theorem Bytes.append {l m : List Int} (h : Bytes l) (k : Bytes m) : Bytes (l ++ m) := Lim.append h k
theorem bs_bytes (s : ByteArray) : Bytes (bs s) := by
  intro x hx
  simp only [bs, List.mem_map] at hx
  obtain ⟨c, _, rfl⟩ := hx
  have := c.toNat_lt
  omega
theorem u8_back {n : Int} (h0 : 0 ≤ n) (h1 : n < 256) : ((UInt8.ofNat n.toNat).toNat : Int) = n := by
  rw [UInt8.toNat_ofNat']; omega
theorem bs_of {l : List Int} (h : Bytes l) : bs (bytesOf l) = l := by
  simp only [bs, bytesOf, List.map_map]
  conv => rhs; rw [← List.map_id l]
  refine List.map_congr_left fun x hx => ?_
  have := h x hx
  simpa using u8_back this.1 this.2
theorem of_bs (s : ByteArray) : bytesOf (bs s) = s := by
  have : (bs s).map (fun n => UInt8.ofNat n.toNat) = s.data.toList := by
    simp only [bs, List.map_map]
    conv => rhs; rw [← List.map_id s.data.toList]
    refine List.map_congr_left fun c _ => ?_
    simp
  unfold bytesOf
  rw [this]
theorem bytesOf_inj {l m : List Int} (hl : Bytes l) (hm : Bytes m) (h : bytesOf l = bytesOf m) : l = m := by rw [← bs_of hl, h, bs_of hm]
theorem size_of (l : List Int) : (bytesOf l).size = l.length := by
  show (bytesOf l).data.size = _
  simp [bytesOf]
theorem size_bs (s : ByteArray) : s.size = (bs s).length := by
  show s.data.size = _
  simp [bs]
theorem eq_bytes {l m : List Int} (hl : Bytes l) (hm : Bytes m) : ((bytesOf l).toList == (bytesOf m).toList) = decide (l = m) := by
  rw [Bool.eq_iff_iff, beq_iff_eq, decide_eq_true_eq]
  constructor
  · intro h
    rw [ByteArray.toList_eq, ByteArray.toList_eq] at h
    exact bytesOf_inj hl hm (by
      have := Array.toList_inj.1 h
      cases hx : bytesOf l; cases hy : bytesOf m
      rw [hx, hy] at this
      simpa using this)
  · rintro rfl; rfl
theorem ex_byte {l : List Int} (hl : Bytes l) {i : Nat} {Q : Int → Prop} : (∃ c : UInt8, (ByteArray.data (bytesOf l))[i]? = some c ∧ Q ((c.toNat : Nat) : Int)) ↔ (i < l.length ∧ Q (rd l i)) := by
  have key : (ByteArray.data (bytesOf l))[i]? = (l[i]?).map fun n => UInt8.ofNat n.toNat := by simp [bytesOf]
  constructor
  · rintro ⟨c, h, hq⟩
    rw [key, Option.map_eq_some_iff] at h
    obtain ⟨n, hn, rfl⟩ := h
    have := hl n (List.mem_of_getElem? hn)
    rw [u8_back this.1 this.2] at hq
    exact ⟨(List.getElem?_eq_some_iff.1 hn).1, by rw [rd_some hn]; exact hq⟩
  · rintro ⟨h, hq⟩
    have := hl.rd (by omega) i
    exact ⟨UInt8.ofNat (rd l i).toNat, by rw [key, some_rd h]; rfl, by rw [u8_back this.1 this.2]; exact hq⟩
theorem map_bs (s : ByteArray) : List.map (fun c : UInt8 => [FV.int .u8 ((c.toNat : Nat) : Int)]) (Array.toList (ByteArray.data s)) = ints .u8 (bs s) := by
  simp [ints, bs]
end Go.Proofs.YtejefchehdifhaaGreatDoor.Ev
end
section
set_option linter.unusedVariables false
set_option maxRecDepth 100000
namespace Go.Proofs.YtejefchehdifhaaGreatDoor.Ev
open Go
def WriteByteF_lv : List Nat → Keep := lvOf []
def WriteByteF_H (R : TV → List Ob → Prop) (c : Int) : Prop :=
  ((Fn Tryz.prog 98 [(TV.one (AV.ptr 0 0 0 0))] [(Ob.g 88 [(AV.fz FV.nilp), (AV.nsl 1)])] (TV.tup []) [(Ob.g 88 [(AV.ptr 0 0 0 0), (AV.nsl 1)])]) ∧ (((((List.length ([] : List (List FV))) + (List.length [[(FV.int .u8 c)]])) * 1) ≤ 220000000000000) ∧ (R (TV.one (AV.fz (FV.ifc false))) [(Ob.g 88 [(AV.ptr 0 0 0 0), (AV.ofl 1 1)]), (Ob.f 5 1 (([] : List (List FV)) ++ [[(FV.int .u8 c)]]))])))
theorem WriteByteF_fn (c : Int) {r : TV} {h : List Ob} (H : WriteByteF_H (fun r' h' => r' = r ∧ Wk h' h) c) : Fn Tryz.prog 63 [(TV.one (AV.ptr 0 0 0 0)), (TV.one (AV.fz (FV.int .u8 c)))] [(Ob.g 88 [(AV.fz FV.nilp), (AV.nsl 1)])] r h :=
  Fn.by_trW (M := (modeOf [] [(98, [(Sig.mk 1 [] [(OT.g 88 [(AT.a (AV.ptr 0 0 0 0)), (AT.a (AV.nsl 1))])] 0)])])) (lv := WriteByteF_lv) (own := (some 1)) (F := Tryz.f63) (by kernel_rfl) (by kernel_rfl) (by first | decide | simp) (fun _ _ h => h) (by kernel_rfl) H
def WriteByteU_lv : List Nat → Keep := lvOf []
def WriteByteU_H (R : TV → List Ob → Prop) (c : Int) (o : List (List FV)) : Prop :=
  (∃ es1 : List (List FV), ((Fn Tryz.prog 98 [(TV.one (AV.ptr 0 0 0 0))] [(Ob.g 88 [(AV.ptr 0 0 0 0), (AV.ofl 1 1)]), (Ob.f 5 1 o)] (TV.tup []) [(Ob.g 88 [(AV.ptr 0 0 0 0), (AV.ofl 1 1)]), (Ob.f 5 1 es1)]) ∧ (((((List.length es1) + (List.length [[(FV.int .u8 c)]])) * 1) ≤ 220000000000000) ∧ (R (TV.one (AV.fz (FV.ifc false))) [(Ob.g 88 [(AV.ptr 0 0 0 0), (AV.ofl 1 2)]), Ob.no, (Ob.f 5 1 (es1 ++ [[(FV.int .u8 c)]]))]))))
theorem WriteByteU_fn (c : Int) (o : List (List FV)) {r : TV} {h : List Ob} (H : WriteByteU_H (fun r' h' => r' = r ∧ Wk h' h) c o) : Fn Tryz.prog 63 [(TV.one (AV.ptr 0 0 0 0)), (TV.one (AV.fz (FV.int .u8 c)))] [(Ob.g 88 [(AV.ptr 0 0 0 0), (AV.ofl 1 1)]), (Ob.f 5 1 o)] r h :=
  Fn.by_trW (M := (modeOf [] [(98, [(Sig.mk 2 [] [(OT.g 88 [(AT.a (AV.ptr 0 0 0 0)), (AT.a (AV.ofl 1 1))]), (OT.f 5 1)] 0)])])) (lv := WriteByteU_lv) (own := (some 2)) (F := Tryz.f63) (by kernel_rfl) (by kernel_rfl) (by first | decide | simp) (fun _ _ h => h) (by kernel_rfl) H
def WriteStringF_lv : List Nat → Keep := lvOf []
def WriteStringF_H (R : TV → List Ob → Prop) (s : ByteArray) : Prop :=
  ((Fn Tryz.prog 98 [(TV.one (AV.ptr 0 0 0 0))] [(Ob.g 88 [(AV.fz FV.nilp), (AV.nsl 1)])] (TV.tup []) [(Ob.g 88 [(AV.ptr 0 0 0 0), (AV.nsl 1)])]) ∧ (((((List.length ([] : List (List FV))) + (List.length (List.map (fun b5 => [(FV.int .u8 (((UInt8.toNat b5) : Nat) : Int))]) (Array.toList (ByteArray.data s))))) * 1) ≤ 220000000000000) ∧ (R (TV.tup [(false, [(AV.fz (FV.int .i64 (((ByteArray.size s) : Nat) : Int)))]), (false, [(AV.fz (FV.ifc false))])]) [(Ob.g 88 [(AV.ptr 0 0 0 0), (AV.ofl 1 1)]), (Ob.f 5 1 (([] : List (List FV)) ++ (List.map (fun b7 => [(FV.int .u8 (((UInt8.toNat b7) : Nat) : Int))]) (Array.toList (ByteArray.data s)))))])))
theorem WriteStringF_fn (s : ByteArray) {r : TV} {h : List Ob} (H : WriteStringF_H (fun r' h' => r' = r ∧ Wk h' h) s) : Fn Tryz.prog 65 [(TV.one (AV.ptr 0 0 0 0)), (TV.one (AV.fz (FV.str s)))] [(Ob.g 88 [(AV.fz FV.nilp), (AV.nsl 1)])] r h :=
  Fn.by_trW (M := (modeOf [] [(98, [(Sig.mk 1 [] [(OT.g 88 [(AT.a (AV.ptr 0 0 0 0)), (AT.a (AV.nsl 1))])] 0)])])) (lv := WriteStringF_lv) (own := (some 1)) (F := Tryz.f65) (by kernel_rfl) (by kernel_rfl) (by first | decide | simp) (fun _ _ h => h) (by kernel_rfl) H
def WriteStringU_lv : List Nat → Keep := lvOf []
def WriteStringU_H (R : TV → List Ob → Prop) (s : ByteArray) (o : List (List FV)) : Prop :=
  (∃ es1 : List (List FV), ((Fn Tryz.prog 98 [(TV.one (AV.ptr 0 0 0 0))] [(Ob.g 88 [(AV.ptr 0 0 0 0), (AV.ofl 1 1)]), (Ob.f 5 1 o)] (TV.tup []) [(Ob.g 88 [(AV.ptr 0 0 0 0), (AV.ofl 1 1)]), (Ob.f 5 1 es1)]) ∧ (((((List.length es1) + (List.length (List.map (fun b5 => [(FV.int .u8 (((UInt8.toNat b5) : Nat) : Int))]) (Array.toList (ByteArray.data s))))) * 1) ≤ 220000000000000) ∧ (R (TV.tup [(false, [(AV.fz (FV.int .i64 (((ByteArray.size s) : Nat) : Int)))]), (false, [(AV.fz (FV.ifc false))])]) [(Ob.g 88 [(AV.ptr 0 0 0 0), (AV.ofl 1 2)]), Ob.no, (Ob.f 5 1 (es1 ++ (List.map (fun b7 => [(FV.int .u8 (((UInt8.toNat b7) : Nat) : Int))]) (Array.toList (ByteArray.data s)))))]))))
theorem WriteStringU_fn (s : ByteArray) (o : List (List FV)) {r : TV} {h : List Ob} (H : WriteStringU_H (fun r' h' => r' = r ∧ Wk h' h) s o) : Fn Tryz.prog 65 [(TV.one (AV.ptr 0 0 0 0)), (TV.one (AV.fz (FV.str s)))] [(Ob.g 88 [(AV.ptr 0 0 0 0), (AV.ofl 1 1)]), (Ob.f 5 1 o)] r h :=
  Fn.by_trW (M := (modeOf [] [(98, [(Sig.mk 2 [] [(OT.g 88 [(AT.a (AV.ptr 0 0 0 0)), (AT.a (AV.ofl 1 1))]), (OT.f 5 1)] 0)])])) (lv := WriteStringU_lv) (own := (some 2)) (F := Tryz.f65) (by kernel_rfl) (by kernel_rfl) (by first | decide | simp) (fun _ _ h => h) (by kernel_rfl) H
end Go.Proofs.YtejefchehdifhaaGreatDoor.Ev
end
section
set_option linter.unusedVariables false
namespace Go.Proofs.YtejefchehdifhaaGreatDoor.Ev
open Go Go.RowKit
theorem sizeBuilder : (Tryz.prog.info? 88).map (·.size) = some 2 := by kernel_rfl
theorem liesBuilder : liesAt Tryz.prog Tryz.prog.depth 88 (2 / Tryz.prog.cellsOf 88) 0 88 1 = true := by kernel_rfl
theorem infoByte : (Tryz.prog.info? 5).map (fun i => (i.zero, i.size, i.bytes)) = some (some (.int .u8 0), 1, 1) := by kernel_rfl
set_option maxHeartbeats 1000000 in
set_option maxRecDepth 100000 in
theorem copyCheck_used (b : Nat) (w : World) (h0 : w.cell? ⟨b, 0, none⟩ = some (.pointer (some ⟨b, 0, none⟩))) :
    Calls Tryz.prog 98 #[.pointer (some ⟨b, 0, none⟩)] w fun e w' => e = .returned (.tuple #[]) ∧ w' = w := by
  obtain ⟨j, hj, _⟩ := Option.map_eq_some_iff.1 sizeBuilder
  go_enter Tryz.func98, Tryz.ntmps98
  go_wp2
  rw [Lib.run_neq_ptr_same w _ Tryz.underlying86 hj]
  go_wp2
  go_end0
  exact ⟨rfl, rfl⟩
set_option maxHeartbeats 1000000 in
set_option maxRecDepth 100000 in
theorem copyCheck_fresh (gt : TypeId) (hlies : liesAt Tryz.prog Tryz.prog.depth gt (2 / Tryz.prog.cellsOf gt) 0 88 1 = true) (b : Nat) (w : World) (h0 : w.cell? ⟨b, 0, none⟩ = some (.pointer none)) (hsh : w.shape? b = some (gt, 2)) (hfz : w.frozen? ⟨b, 0, none⟩ = false) :
    Calls Tryz.prog 98 #[.pointer (some ⟨b, 0, none⟩)] w fun e w' => e = .returned (.tuple #[]) ∧ w' = w.setCell ⟨b, 0, none⟩ (.pointer (some ⟨b, 0, none⟩)) := by
  obtain ⟨j, hj, hjs⟩ := Option.map_eq_some_iff.1 sizeBuilder
  go_enter Tryz.func98, Tryz.ntmps98
  go_wp2
  rw [Lib.run_to_unsafe w ⟨b, 0, none⟩ Tryz.underlying86 Tryz.underlying161 hj (by rw [hjs]; decide) hsh (Nat.zero_lt_succ 1)]
  simp only [Result.andThen]
  rw [Oper.upon_value]
  go_wp2
  rw [run_callFunc_extern Tryz.func127 (by kernel_rfl) (by kernel_rfl) (by kernel_rfl) (e := Extern.AbiNoEscape.same) (by kernel_rfl)]
  rw [Lib.run_noEscape]
  simp only [Result.andThen]
  rw [Oper.upon_value]
  go_wp2
  rw [Lib.run_from_unsafe w ⟨b, 0, none⟩ Tryz.underlying161 Tryz.underlying86 hj hsh hlies]
  simp only [Result.andThen]
  rw [Oper.upon_value]
  go_wp2
  go_end0
  exact ⟨rfl, rfl⟩
theorem ptr_at {P : Program} {ext : Nat → Prop} {w0 : World} {own0 : Own0} {locs : Nat → Option Loc} {h : List Ob} {w : World} (H : RepH P ext w0 own0 locs h w) {gt : TypeId} {cs : List AV} {rest : List Ob} (hh : h = .g gt cs :: rest) {vals : Array Value}
    (hrep : ∀ (i : Nat) (x : TV), [TV.one (.ptr 0 0 0 0)][i]? = some x → ∃ v, vals[i]? = some v ∧ RT w (Bar ext locs h) locs x v) (hsz : vals.size = 1) :
    ∃ l b c, vals = #[.pointer (some ⟨b, 0, none⟩)] ∧ locs 0 = some l ∧ l.a = some ⟨b, 0, none⟩ ∧ w.heap[b]? = some (.cells c gt (0, 0)) ∧ c.size = cs.length ∧ (l.sz = cs.length ∧ l.len = 1) ∧ ∀ (j : Nat) (x : AV), cs[j]? = some x → ∃ v, c[j]? = some v ∧ RA w (Bar ext locs h) locs x v := by
  subst hh
  obtain ⟨v, hv, l, d, h1, h2, h3⟩ := hrep 0 _ rfl
  obtain ⟨l', h4, h5, b, c, h6, h7, h8, h9⟩ := H.get (o := 0) (ob := .g gt cs) rfl (by simp) (by simp)
  rw [h1] at h4; cases h4
  rw [h2] at h6; cases h6
  refine ⟨l, b, c, ?_, h1, h2, h7, h8, h5, h9⟩
  have : vals = #[v] := by
    apply Array.ext
    · simpa using hsz
    · intro i hi hi'
      have : i = 0 := by simp at hi'; omega
      subst this
      have := hv
      rw [Array.getElem?_eq_getElem (by omega)] at this
      simpa using this
  rw [this, h3]
  simp
theorem copyCheck_fn_used (gt : TypeId) (a : AV) (rest : List Ob) : Fn Tryz.prog 98 [.one (.ptr 0 0 0 0)] (.g gt [.ptr 0 0 0 0, a] :: rest) (.tup []) (.g gt [.ptr 0 0 0 0, a] :: rest) := by
  intro ext w locs vals H hsz hrep
  obtain ⟨l, b, c, rfl, h1, h2, h3, h4, h5, h6⟩ := ptr_at H rfl hrep hsz
  obtain ⟨v0, g1, l', d, g2, g3, g4⟩ := h6 0 _ rfl
  rw [h1] at g2; cases g2
  rw [h2] at g3; cases g3
  have h0 : w.cell? ⟨b, 0, none⟩ = some (.pointer (some ⟨b, 0, none⟩)) := by simp [World.cell?, h3, g1, g4]
  refine (copyCheck_used b w h0).mono ?_
  rintro e w' ⟨rfl, rfl⟩
  exact ⟨_, locs, rfl, H, #[], rfl, rfl, by simp⟩
theorem copyCheck_fn_fresh (gt : TypeId) (hlies : liesAt Tryz.prog Tryz.prog.depth gt (2 / Tryz.prog.cellsOf gt) 0 88 1 = true) (a : AV) (rest : List Ob) : Fn Tryz.prog 98 [.one (.ptr 0 0 0 0)] (.g gt [.fz .nilp, a] :: rest) (.tup []) (.g gt [.ptr 0 0 0 0, a] :: rest) := by
  intro ext w locs vals H hsz hrep
  obtain ⟨l, b, c, rfl, h1, h2, h3, h4, h5, h6⟩ := ptr_at H rfl hrep hsz
  obtain ⟨v0, g1, g2⟩ := h6 0 _ rfl
  cases inv_nilp (locs := locs) g2
  have h0 : w.cell? ⟨b, 0, none⟩ = some (.pointer none) := by simp [World.cell?, h3, g1]
  have hc2 : c.size = 2 := h4
  have hsh : w.shape? b = some (gt, 2) := by simp [World.shape?, h3, hc2]
  refine (copyCheck_fresh gt hlies b w h0 hsh (frozen_of_row w b 0 c _ h3)).mono ?_
  rintro e w' ⟨rfl, rfl⟩
  have hw : (w.setCell ⟨b, 0, none⟩ (.pointer (some ⟨b, 0, none⟩))).heap.size = w.heap.size := by simp [World.setCell]
  obtain ⟨H', lt⟩ := H.upd (w' := w.setCell ⟨b, 0, none⟩ (.pointer (some ⟨b, 0, none⟩))) (o := 0) (ob0 := .g gt [.fz .nilp, a]) (ob := .g gt [.ptr 0 0 0 0, a]) rfl rfl h1 h2
    (fun k hk hne => heap_setCell_other w _ k _ hne) (by rw [hw]; exact Nat.le_refl _) rfl rfl rfl (fun lt => by
      refine ⟨h5, b, _, h2, heap_setCell_same w b 0 c _ _ h3, by simpa using h4, fun j x hx => ?_⟩
      match j, hx with
      | 0, hx =>
        cases hx
        exact ⟨.pointer (some ⟨b, 0, none⟩), by simp [hc2], l, _, h1, h2, by simp⟩
      | 1, hx =>
        cases hx
        obtain ⟨u, hu, hr⟩ := h6 1 _ rfl
        exact ⟨u, by simpa using hu, hr.later lt (fun _ _ h => h)⟩)
  exact ⟨_, locs, rfl, H', #[], rfl, rfl, by simp⟩
end Go.Proofs.YtejefchehdifhaaGreatDoor.Ev
end
section
set_option linter.unusedVariables false
namespace Go.Proofs.YtejefchehdifhaaGreatDoor.Ev
open Go Go.RowKit
theorem liesAt_bytes_at {P : Program} {e : TypeId} (hc : P.cellsOf e = 1) (count off n : Nat) (hn : off + n ≤ count) : liesAt P P.depth e count off e n = true := by
  have hd : P.depth = (2 * (P.types.size + Made.depth) + 1) + 1 := rfl
  rw [hd]
  simp only [liesAt, Bool.or_eq_true]
  left
  rw [hd]
  simp [rowAt, hc, hn, sameLayout, Nat.mod_one]
theorem unsafeString_at {P : Program} (w : World) (pt it ty e : TypeId) (hp : P.underlying pt = some (.pointer e)) (hc : P.cellsOf e = 1) (g off cells : Nat) (hsh : w.shape? g = some (e, cells)) (l : List UInt8) (h0 : l ≠ []) (hn : off + l.length ≤ cells) (h63 : l.length ≤ 9223372036854775807)
    (hcell : ∀ j x, l[j]? = some x → w.cell? ((⟨g, off, none⟩ : Addr).add j) = some (.int .u8 x.toNat)) :
    (Builtin.unsafeString_ #[pt, it] ty #[.pointer (some ⟨g, off, none⟩), .int .i64 l.length]).run P w = .ok (.string ⟨l.toArray⟩) (w.freeze ⟨g, off, none⟩ l.length) := by
  have hl : l.length ≠ 0 := by simpa using h0
  have hlb := Lib.run_loadBytes (P := P) w l ⟨g, off, none⟩ .empty hcell
  have hlies := liesAt_bytes_at (P := P) hc (cells / P.cellsOf e) off l.length (by rw [hc]; simpa using hn)
  have h63' : ¬ (9223372036854775807 : Int) < (l.length : Int) := by omega
  have hdef : Builtin.unsafeString_ #[pt, it] ty #[.pointer (some ⟨g, off, none⟩), .int .i64 l.length] =
      (do
        let n ← asInt (.int .i64 l.length)
        if n < 0 then runtimePanic (.error "unsafe.String: len out of range")
        if n > IntKind.i64.max then unsupported (.unsafePointer "String: a length above the largest int")
        if n = 0 then pure (.string .empty)
        else if ← variablesAt ⟨g, off, none⟩ (← elemOf pt) n.toNat then do
          let s ← loadBytes ⟨g, off, none⟩ .empty n.toNat
          freeze ⟨g, off, none⟩ n.toNat
          pure (.string s)
        else unsupported (.unsafePointer "String: not so many bytes at ptr")) := rfl
  rw [hdef]
  have hmax : IntKind.i64.max = 9223372036854775807 := rfl
  have hneg : ¬ (l.length : Int) < 0 := by omega
  simp [asInt, asIntOf, hmax, h63', hneg, hl, variablesAt, hsh, elemOf, run_underlying hp, hlies, hlb]
set_option maxHeartbeats 2000000 in
set_option maxRecDepth 100000 in
theorem String_run (gt : TypeId) (b g off cap cells : Nat) (p : Value) (w : World) (l : List UInt8) (h0 : l ≠ []) (hbk : w.heap[b]? = some (.cells #[p, .slice (some ⟨g, off, none⟩) l.length cap] gt (0, 0))) (hc0 : cap ≠ 0)
    (hsh : w.shape? g = some (5, cells)) (hn : off + l.length ≤ cells) (h63 : l.length ≤ 9223372036854775807)
    (hcell : ∀ j x, l[j]? = some x → w.cell? ((⟨g, off, none⟩ : Addr).add j) = some (.int .u8 x.toNat)) :
    Calls Tryz.prog 59 #[.pointer (some ⟨b, 0, none⟩)] w fun e w' => e = .returned (.string ⟨l.toArray⟩) ∧ (w' = w.freeze ⟨g, off, none⟩ l.length ∨ w' = (w.freeze ⟨g, off, none⟩ l.length).drew ∨ w' = w.drew.freeze ⟨g, off, none⟩ l.length) := by
  have c1 : w.cell? ⟨b, 1, none⟩ = some (.slice (some ⟨g, off, none⟩) l.length cap) := by rw [Lib.cell_of_heap hbk]; rfl
  have c1' : w.drew.cell? ⟨b, 1, none⟩ = some (.slice (some ⟨g, off, none⟩) l.length cap) := c1
  have hSD : ∀ w : World, (Builtin.unsafeSliceData_ #[51] 134 #[.slice (some ⟨g, off, none⟩) l.length cap]).run Tryz.prog w = .ok (.pointer (some ⟨g, off, none⟩)) w := fun w => Lib.run_unsafeSliceData_row w _ _ _ _ _ hc0
  have hUS := unsafeString_at (P := Tryz.prog) w 134 3 9 5 Tryz.underlying134 (by kernel_rfl) g off cells hsh l h0 hn h63 hcell
  have hUS' := unsafeString_at (P := Tryz.prog) w.drew 134 3 9 5 Tryz.underlying134 (by kernel_rfl) g off cells hsh l h0 hn h63 hcell
  have mixed : Tryz.prog.follows .mixedOrders = true := by kernel_rfl
  go_enter Tryz.func59, Tryz.ntmps59
  go_wp2
  go_region_o
  all_goals (go_wp2; go_ret; first | exact ⟨rfl, .inl rfl⟩ | exact ⟨rfl, .inr (.inl rfl)⟩ | exact ⟨rfl, .inr (.inr rfl)⟩)
theorem heap_freeze_other (w : World) (a : Addr) (n k : Nat) (h : k ≠ a.block) : (w.freeze a n).heap[k]? = w.heap[k]? := by
  unfold World.freeze
  split
  · rfl
  · simp only [Array.getElem?_modify]
    rw [if_neg (fun e => h e.symm)]
theorem heap_freeze_same (w : World) (a : Addr) (n : Nat) {c : Array Value} {t : TypeId} {z : Nat × Nat} (h : w.heap[a.block]? = some (.cells c t z)) : ∃ z', (w.freeze a n).heap[a.block]? = some (.cells c t z') := by
  unfold World.freeze
  split
  · exact ⟨_, h⟩
  · simp only [Array.getElem?_modify, if_true, h, Option.map_some]
    exact ⟨_, rfl⟩
theorem size_freeze (w : World) (a : Addr) (n : Nat) : (w.freeze a n).heap.size = w.heap.size := by
  unfold World.freeze
  split
  · rfl
  · simp
def bytesRow (ns : List Int) : List (List FV) := ns.map fun n => [FV.int .u8 n]
theorem String_fn (gt : TypeId) (a0 : AV) (ns : List Int) (hne : ns ≠ []) (hb : ∀ n ∈ ns, 0 ≤ n ∧ n < 256) (h63 : ns.length ≤ 9223372036854775807) :
    Fn Tryz.prog 59 [.one (.ptr 0 0 0 0)] [.g gt [a0, .ofl 1 1], .f 5 1 (bytesRow ns)] (.one (.fz (.str (bytesOf ns)))) [.g gt [a0, .ofl 1 1], .z 1 (bytesRow ns)] := by
  intro ext w locs vals H hsz hrep
  obtain ⟨l, b, c, rfl, h1, h2, h3, h4, h5, h6⟩ := ptr_at H rfl hrep hsz
  obtain ⟨v1, g1, l1, a, cp, k1, k2, rfl, k3, k4, k5⟩ := h6 1 _ rfl
  obtain ⟨l', j1, hob⟩ := H.get (o := 1) (ob := .f 5 1 (bytesRow ns)) rfl (by simp) (by simp)
  rw [k1] at j1; cases j1
  obtain ⟨m1, m2, m3⟩ := hob
  have hlen : (bytesRow ns).length = ns.length := by simp [bytesRow]
  have hpos : 0 < ns.length := List.length_pos_iff.2 hne
  rcases m3 with ⟨e, _⟩ | ⟨g, off, cc, ty, n1, n2, n3, n4, n5, n6⟩
  · rw [e] at hlen; simp at hlen; omega
  · have hty : ty = 5 := n3.resolve_left (by decide)
    subst hty
    have hcp : cp ≠ 0 := by omega
    have ha : a = some ⟨g, off, none⟩ := by rw [← n1]; exact k5.resolve_left hcp
    subst ha
    have hcell : ∀ (j : Nat) (x : UInt8), (ns.map fun n => UInt8.ofNat n.toNat)[j]? = some x → w.cell? ((⟨g, off, none⟩ : Addr).add j) = some (.int .u8 x.toNat) := by
      intro j x hx
      simp only [List.getElem?_map, Option.map_eq_some_iff] at hx
      obtain ⟨n, hn, rfl⟩ := hx
      obtain ⟨_, h8⟩ := n6 j [FV.int .u8 n] (by simp [bytesRow, hn])
      obtain ⟨v, hv, hr⟩ := h8 0 _ rfl
      cases hr
      obtain ⟨r1, r2⟩ := hb n (List.mem_of_getElem? hn)
      have e1 : (⟨g, off, none⟩ : Addr).add j = ⟨g, off + j, none⟩ := by
        unfold Addr.add
        by_cases hj : j = 0
        · subst hj; rfl
        · simp [hj]
      have e2 : ((UInt8.ofNat n.toNat).toNat : Int) = n := by
        rw [UInt8.toNat_ofNat']
        omega
      rw [e1, e2]
      simp only [World.cell?, n2]
      simpa using hv
    have hbk : w.heap[b]? = some (.cells #[c[0]'(by rw [h4]; simp), .slice (some ⟨g, off, none⟩) (ns.map fun n => UInt8.ofNat n.toNat).length cp] gt (0, 0)) := by
      rw [h3]
      congr 2
      apply Array.ext
      · simpa using h4
      · intro i hi hi'
        have hi2 : i < 2 := by simpa using hi'
        have hl : (ns.map fun n => UInt8.ofNat n.toNat).length = l1.len := by rw [m2, hlen]; simp
        match i, hi2 with
        | 0, _ => simp
        | 1, _ =>
          have := g1
          rw [Array.getElem?_eq_getElem (by rw [h4]; simp)] at this
          have := Option.some.inj this
          simpa [hl] using this
    refine (String_run gt b g off cp cc.size _ w (ns.map fun n => UInt8.ofNat n.toNat) (by simpa using hne) hbk hcp (by simp [World.shape?, n2]) (by simp; rw [hlen] at n5; omega) (by simpa using h63) hcell).mono ?_
    rintro e w' ⟨rfl, hw⟩
    have hfacts : (∀ k, k ≠ g → w'.heap[k]? = w.heap[k]?) ∧ (∃ z, w'.heap[g]? = some (.cells cc 5 z)) ∧ w'.heap.size = w.heap.size ∧ w'.os = w.os ∧ w'.tape = w.tape ∧ w'.output = w.output := by
      have base : ∀ w1 : World, w1.heap = w.heap → w1.os = w.os → w1.tape = w.tape → w1.output = w.output → ∀ n, (∀ k, k ≠ g → (w1.freeze ⟨g, off, none⟩ n).heap[k]? = w.heap[k]?) ∧ (∃ z, (w1.freeze ⟨g, off, none⟩ n).heap[g]? = some (.cells cc 5 z)) ∧ (w1.freeze ⟨g, off, none⟩ n).heap.size = w.heap.size ∧ (w1.freeze ⟨g, off, none⟩ n).os = w.os ∧ (w1.freeze ⟨g, off, none⟩ n).tape = w.tape ∧ (w1.freeze ⟨g, off, none⟩ n).output = w.output := by
        intro w1 e1 e2 e3 e4 n
        refine ⟨fun k hk => by rw [heap_freeze_other w1 _ n k hk, e1], heap_freeze_same w1 ⟨g, off, none⟩ n (by rw [e1]; exact n2), by rw [size_freeze, e1], ?_, ?_, ?_⟩ <;> (unfold World.freeze; split <;> assumption)
      rcases hw with rfl | rfl | rfl
      · exact base w rfl rfl rfl rfl _
      · exact base w rfl rfl rfl rfl _
      · exact base w.drew rfl rfl rfl rfl _
    obtain ⟨q1, ⟨z, q2⟩, q3, q4, q5, q6⟩ := hfacts
    have hne' : b ≠ g := by
      have := H.apart 0 1 l l1 _ _ _ _ (by simp) rfl rfl rfl rfl h1 k1 h2 n1
      exact this
    have st := H.step (w' := w') (locs' := locs) (h' := [.g gt [a0, .ofl 1 1], .z 1 (bytesRow ns)]) (fun o => o = 1) (fun k => k = g) (fun k _ hk => q1 k hk) (by omega) q4 q5 q6
      (fun k _ hk => ⟨1, l1, _, _, rfl, rfl, k1, n1, hk.symm⟩) (fun _ _ h => h) (fun o ho => H.len o (by simpa using ho))
      (fun o ob hc ho => by
        match o, ho with
        | 0, ho => cases ho; exact ⟨rfl, rfl⟩
        | 1, _ => exact absurd rfl hc)
      (fun o lo ob d hc ho hlv hlo hd => by
        match o, ho with
        | 0, ho => rw [h1] at hlo; cases hlo; rw [h2] at hd; cases hd; exact hne'
        | 1, _ => exact absurd rfl hc)
      (fun k hk => by
        rintro ⟨o, lo, d, ob, r1, r2, r3, r4, rfl⟩
        match o, r1 with
        | 0, r1 => cases r1; exact ⟨0, lo, d, _, rfl, rfl, r3, r4, rfl⟩
        | 1, r1 => cases r1; cases r2)
      (fun o o' lo lo' ob ob' d d' hc hne ho ho' hlv => by subst hc; cases ho; cases hlv)
      (fun lt o ob hc ho => by
        subst hc
        cases ho
        refine .inr (.inr ⟨l1, k1, m1, m2, .inr ⟨g, off, n1, fun i e he => ?_⟩⟩)
        obtain ⟨s1, s2⟩ := n6 i e he
        refine ⟨s1, fun j x hx => ?_⟩
        obtain ⟨v, hv, hr⟩ := s2 j x hx
        refine ⟨?_, v, by simp only [World.cell?, q2]; exact hv, hr.later lt⟩
        rintro (hx' | ⟨o, lo, d, ob, r1, r2, r3, r4, r5⟩)
        · exact H.extOwn g hx' ⟨1, l1, _, _, rfl, rfl, k1, n1, rfl⟩
        · match o, r1 with
          | 0, r1 => cases r1; rw [h1] at r3; cases r3; rw [h2] at r4; cases r4; exact hne' r5
          | 1, r1 => cases r1; cases r2)
    exact ⟨_, locs, rfl, st.1, RF.str _⟩
end Go.Proofs.YtejefchehdifhaaGreatDoor.Ev
end
section
set_option linter.unusedVariables false
set_option linter.unusedSimpArgs false
namespace Go.Proofs.YtejefchehdifhaaGreatDoor.Ev
open Go
abbrev bF : List Ob := [.g 88 [.fz .nilp, .nsl 1]]
abbrev bU (l : List Int) : List Ob := [.g 88 [.ptr 0 0 0 0, .ofl 1 1], .f 5 1 (ints .u8 l)]
abbrev bV (l : List Int) : List Ob := [.g 88 [.ptr 0 0 0 0, .ofl 1 2], .no, .f 5 1 (ints .u8 l)]
abbrev p0 : TV := .one (.ptr 0 0 0 0)
abbrev wsR (n : Int) : TV := .tup [(false, [.fz (.int .i64 n)]), (false, [.fz (.ifc false)])]
theorem writeByteF_ok (c : Int) : Fn Tryz.prog 63 [p0, fzI .u8 c] bF (.one (.fz (.ifc false))) (bU [c]) := by
  refine WriteByteF_fn _ ?_
  unfold WriteByteF_H
  simp only [ints_len, ints_app, ints_snoc, ints_take, ints_drop, ints_set, ints_rep, ints_one, ex_rd, dec_t, dec_f, beq_t, beq_f, bne_t, bne_f, not_t, not_f, List.length_set, List.length_append, List.length_cons, List.length_nil, List.length_take, List.length_drop, List.length_replicate, Int.toNat_natCast, List.nil_append, Bool.not_true, Bool.not_false, Wk_nil, Wk_cons, wk1_same, wk1_f, and_true, true_and, Bool.false_eq_true, Bool.true_eq_false, false_implies, forall_const]
  exact ⟨copyCheck_fn_fresh _ liesBuilder _ _, by omega⟩
theorem writeByteU_ok (c : Int) (l : List Int) (hl : l.length ≤ 100000000) : Fn Tryz.prog 63 [p0, fzI .u8 c] (bU l) (.one (.fz (.ifc false))) (bV (l ++ [c])) := by
  refine WriteByteU_fn _ _ ?_
  unfold WriteByteU_H
  refine ⟨_, copyCheck_fn_used _ _ _, ?_⟩
  simp only [ints_len, ints_app, ints_snoc, ints_take, ints_drop, ints_set, ints_rep, ints_one, ex_rd, dec_t, dec_f, beq_t, beq_f, bne_t, bne_f, not_t, not_f, List.length_set, List.length_append, List.length_cons, List.length_nil, List.length_take, List.length_drop, List.length_replicate, Int.toNat_natCast, List.nil_append, Bool.not_true, Bool.not_false, Wk_nil, Wk_cons, wk1_same, wk1_f, and_true, true_and, Bool.false_eq_true, Bool.true_eq_false, false_implies, forall_const]
  omega
theorem writeStringF_ok (s : ByteArray) (hs : (bs s).length ≤ 100000000) : Fn Tryz.prog 65 [p0, .one (.fz (.str s))] bF (wsR (bs s).length) (bU (bs s)) := by
  refine WriteStringF_fn _ ?_
  unfold WriteStringF_H
  simp only [map_bs, size_bs]
  simp only [ints_len, ints_app, ints_snoc, ints_take, ints_drop, ints_set, ints_rep, ints_one, ex_rd, dec_t, dec_f, beq_t, beq_f, bne_t, bne_f, not_t, not_f, List.length_set, List.length_append, List.length_cons, List.length_nil, List.length_take, List.length_drop, List.length_replicate, Int.toNat_natCast, List.nil_append, Bool.not_true, Bool.not_false, Wk_nil, Wk_cons, wk1_same, wk1_f, and_true, true_and, Bool.false_eq_true, Bool.true_eq_false, false_implies, forall_const]
  exact ⟨copyCheck_fn_fresh _ liesBuilder _ _, by omega⟩
theorem writeStringU_ok (s : ByteArray) (l : List Int) (hs : (bs s).length ≤ 100000000) (hl : l.length ≤ 100000000) : Fn Tryz.prog 65 [p0, .one (.fz (.str s))] (bU l) (wsR (bs s).length) (bV (l ++ bs s)) := by
  refine WriteStringU_fn _ _ ?_
  unfold WriteStringU_H
  refine ⟨_, copyCheck_fn_used _ _ _, ?_⟩
  simp only [map_bs, size_bs]
  simp only [ints_len, ints_app, ints_snoc, ints_take, ints_drop, ints_set, ints_rep, ints_one, ex_rd, dec_t, dec_f, beq_t, beq_f, bne_t, bne_f, not_t, not_f, List.length_set, List.length_append, List.length_cons, List.length_nil, List.length_take, List.length_drop, List.length_replicate, Int.toNat_natCast, List.nil_append, Bool.not_true, Bool.not_false, Wk_nil, Wk_cons, wk1_same, wk1_f, and_true, true_and, Bool.false_eq_true, Bool.true_eq_false, false_implies, forall_const]
  omega
theorem stringU_ok (l : List Int) (hne : l ≠ []) (hb : Bytes l) (hl : l.length ≤ 100000000) :
    Fn Tryz.prog 59 [p0] (bU l) (.one (.fz (.str (bytesOf l)))) [.g 88 [.ptr 0 0 0 0, .ofl 1 1], .z 1 (ints .u8 l)] :=
  String_fn _ _ l hne (fun n hn => hb n hn) (by omega)
end Go.Proofs.YtejefchehdifhaaGreatDoor.Ev
end
section
set_option linter.unusedVariables false
set_option maxRecDepth 100000
namespace Go.Proofs.YtejefchehdifhaaGreatDoor.Ev
open Go
def num_Text_lv : List Nat → Keep := lvOf [([0, 1, 0, 1, 1, 1, 1, 1], ⟨26, 0, [], true, false⟩)]
def num_Text_S0 (x0 : Bool) (x1 : List (List FV)) (i : Int) (es : List (List FV)) : St := (St.mk [TV.und, (TV.one (AV.ptr 0 0 0 0)), TV.und, (TV.one (AV.ptr 1 0 0 0)), (TV.one (AV.fz (FV.int .i64 i))), TV.und, TV.und, TV.und, TV.und, TV.und, TV.und, TV.und, TV.und, TV.und, TV.und, TV.und, TV.und, TV.und, TV.und, TV.und, TV.und, TV.und, TV.und, TV.und, TV.und, TV.und, TV.und, TV.und, TV.und, TV.und, TV.und, TV.und, TV.und, TV.und, TV.und, TV.und, TV.und, TV.und, TV.und, TV.und, TV.und, TV.und, TV.und, TV.und, TV.und] [(Ob.g 36 [(AV.fz (FV.bool x0)), (AV.fz (FV.sl 1 x1))]), (Ob.g 88 [(AV.ptr 1 0 0 0), (AV.ofl 1 2)]), (Ob.f 5 1 es)])
def num_Text_L0 (R : TV → List Ob → Prop) (x0 : Bool) (x1 : List (List FV)) (i : Int) (es : List (List FV)) : Prop := LoopAt Tryz.prog (modeOf [] [(63, [(Sig.mk 1 [(false, [(AT.a (AV.fz (FV.ifc false)))])] [(OT.g 88 [(AT.a (AV.ptr 0 0 0 0)), (AT.a (AV.ofl 1 1))]), (OT.f 5 1)] 0), (Sig.mk 2 [(false, [(AT.a (AV.fz (FV.ifc false)))])] [(OT.g 88 [(AT.a (AV.ptr 0 0 0 0)), (AT.a (AV.ofl 1 2))]), OT.no, (OT.f 5 1)] 0)]), (65, [(Sig.mk 1 [(false, [(AT.k (CK.int .i64))]), (false, [(AT.a (AV.fz (FV.ifc false)))])] [(OT.g 88 [(AT.a (AV.ptr 0 0 0 0)), (AT.a (AV.ofl 1 1))]), (OT.f 5 1)] 0), (Sig.mk 2 [(false, [(AT.k (CK.int .i64))]), (false, [(AT.a (AV.fz (FV.ifc false)))])] [(OT.g 88 [(AT.a (AV.ptr 0 0 0 0)), (AT.a (AV.ofl 1 2))]), OT.no, (OT.f 5 1)] 0)]), (59, [(Sig.mk 2 [(false, [(AT.k CK.str)])] [(OT.g 88 [(AT.a (AV.ptr 0 0 0 0)), (AT.a (AV.ofl 1 1))]), (OT.z 1)] 0)])]) num_Text_lv Tryz.f94 none R [1, 1, 1, 1, 1, 0, 1, 0] (num_Text_S0 x0 x1 i es)
def num_Text_S1 (x0 : Bool) (x1 : List (List FV)) : St := (St.mk [TV.und, (TV.one (AV.ptr 0 0 0 0)), TV.und, (TV.one (AV.ptr 1 0 0 0)), (TV.one (AV.fz (FV.int .i64 (IntKind.wrap .i64 ((((List.length x1) : Nat) : Int) - 1))))), TV.und, TV.und, TV.und, TV.und, TV.und, TV.und, TV.und, TV.und, TV.und, TV.und, TV.und, TV.und, TV.und, TV.und, TV.und, TV.und, TV.und, TV.und, TV.und, TV.und, TV.und, TV.und, TV.und, TV.und, TV.und, TV.und, TV.und, TV.und, TV.und, TV.und, TV.und, TV.und, TV.und, TV.und, TV.und, TV.und, TV.und, TV.und, TV.und, TV.und] [(Ob.g 36 [(AV.fz (FV.bool x0)), (AV.fz (FV.sl 1 x1))]), (Ob.g 88 [(AV.fz FV.nilp), (AV.nsl 1)])])
def num_Text_L1 (R : TV → List Ob → Prop) (x0 : Bool) (x1 : List (List FV)) : Prop := LoopAt Tryz.prog (modeOf [] [(63, [(Sig.mk 1 [(false, [(AT.a (AV.fz (FV.ifc false)))])] [(OT.g 88 [(AT.a (AV.ptr 0 0 0 0)), (AT.a (AV.ofl 1 1))]), (OT.f 5 1)] 0), (Sig.mk 2 [(false, [(AT.a (AV.fz (FV.ifc false)))])] [(OT.g 88 [(AT.a (AV.ptr 0 0 0 0)), (AT.a (AV.ofl 1 2))]), OT.no, (OT.f 5 1)] 0)]), (65, [(Sig.mk 1 [(false, [(AT.k (CK.int .i64))]), (false, [(AT.a (AV.fz (FV.ifc false)))])] [(OT.g 88 [(AT.a (AV.ptr 0 0 0 0)), (AT.a (AV.ofl 1 1))]), (OT.f 5 1)] 0), (Sig.mk 2 [(false, [(AT.k (CK.int .i64))]), (false, [(AT.a (AV.fz (FV.ifc false)))])] [(OT.g 88 [(AT.a (AV.ptr 0 0 0 0)), (AT.a (AV.ofl 1 2))]), OT.no, (OT.f 5 1)] 0)]), (59, [(Sig.mk 2 [(false, [(AT.k CK.str)])] [(OT.g 88 [(AT.a (AV.ptr 0 0 0 0)), (AT.a (AV.ofl 1 1))]), (OT.z 1)] 0)])]) num_Text_lv Tryz.f94 none R [1, 1, 1, 1, 1, 0, 1, 0] (num_Text_S1 x0 x1)
def num_Text_R0 (R : TV → List Ob → Prop) (x0 : Bool) (x1 : List (List FV)) (i : Int) (es : List (List FV)) : Prop :=
  ((((decide ((0 : Int) ≤ i)) = true) → (((0 : Int) ≤ i) ∧ (∃ n12 : Int, (((x1)[(Int.toNat i)]? = (some [(FV.int .u32 n12)])) ∧ (∃ s8 : ByteArray, ((Fn Tryz.prog 125 [(TV.one (AV.fz (FV.int .i64 (IntKind.wrap .i64 n12))))] [] (TV.one (AV.fz (FV.str s8))) []) ∧ ((((decide (i < (IntKind.wrap .i64 ((((List.length x1) : Nat) : Int) - 1)))) = true) → (∃ s9 : ByteArray, ((Fn Tryz.prog 126 [(TV.one (AV.fz (FV.str (ByteArray.mk #[48])))), (TV.one (AV.fz (FV.int .i64 (IntKind.wrap .i64 (9 - (((ByteArray.size s8) : Nat) : Int))))))] [] (TV.one (AV.fz (FV.str s9))) []) ∧ (∃ es12 : List (List FV), (∃ n13 : Int, ((Fn Tryz.prog 65 [(TV.one (AV.ptr 0 0 0 0)), (TV.one (AV.fz (FV.str s9)))] [(Ob.g 88 [(AV.ptr 0 0 0 0), (AV.ofl 1 1)]), (Ob.f 5 1 es)] (TV.tup [(false, [(AV.fz (FV.int .i64 n13))]), (false, [(AV.fz (FV.ifc false))])]) [(Ob.g 88 [(AV.ptr 0 0 0 0), (AV.ofl 1 2)]), Ob.no, (Ob.f 5 1 es12)]) ∧ (∃ es13 : List (List FV), (∃ n14 : Int, ((Fn Tryz.prog 65 [(TV.one (AV.ptr 0 0 0 0)), (TV.one (AV.fz (FV.str s8)))] [(Ob.g 88 [(AV.ptr 0 0 0 0), (AV.ofl 1 1)]), (Ob.f 5 1 es12)] (TV.tup [(false, [(AV.fz (FV.int .i64 n14))]), (false, [(AV.fz (FV.ifc false))])]) [(Ob.g 88 [(AV.ptr 0 0 0 0), (AV.ofl 1 2)]), Ob.no, (Ob.f 5 1 es13)]) ∧ (num_Text_L0 R x0 x1 (IntKind.wrap .i64 (i - 1)) es13)))))))))) ∧ (((decide (i < (IntKind.wrap .i64 ((((List.length x1) : Nat) : Int) - 1)))) = false) → (∃ es14 : List (List FV), (∃ n15 : Int, ((Fn Tryz.prog 65 [(TV.one (AV.ptr 0 0 0 0)), (TV.one (AV.fz (FV.str s8)))] [(Ob.g 88 [(AV.ptr 0 0 0 0), (AV.ofl 1 1)]), (Ob.f 5 1 es)] (TV.tup [(false, [(AV.fz (FV.int .i64 n15))]), (false, [(AV.fz (FV.ifc false))])]) [(Ob.g 88 [(AV.ptr 0 0 0 0), (AV.ofl 1 2)]), Ob.no, (Ob.f 5 1 es14)]) ∧ (num_Text_L0 R x0 x1 (IntKind.wrap .i64 (i - 1)) es14)))))))))))) ∧ (((decide ((0 : Int) ≤ i)) = false) → (∃ es15 : List (List FV), (∃ s10 : ByteArray, ((Fn Tryz.prog 59 [(TV.one (AV.ptr 0 0 0 0))] [(Ob.g 88 [(AV.ptr 0 0 0 0), (AV.ofl 1 1)]), (Ob.f 5 1 es)] (TV.one (AV.fz (FV.str s10))) [(Ob.g 88 [(AV.ptr 0 0 0 0), (AV.ofl 1 1)]), (Ob.z 1 es15)]) ∧ (R (TV.one (AV.fz (FV.str s10))) []))))))
theorem num_Text_l0 {R : TV → List Ob → Prop} {x0 : Bool} {x1 : List (List FV)} {i : Int} {es : List (List FV)} (h : num_Text_R0 R x0 x1 i es) : num_Text_L0 R x0 x1 i es :=
  LoopAt.by_tr (by kernel_rfl) (by kernel_rfl) h
def num_Text_R1 (R : TV → List Ob → Prop) (x0 : Bool) (x1 : List (List FV)) : Prop :=
  ((((decide ((0 : Int) ≤ (IntKind.wrap .i64 ((((List.length x1) : Nat) : Int) - 1)))) = true) → (((0 : Int) ≤ (IntKind.wrap .i64 ((((List.length x1) : Nat) : Int) - 1))) ∧ (∃ n12 : Int, (((x1)[(Int.toNat (IntKind.wrap .i64 ((((List.length x1) : Nat) : Int) - 1)))]? = (some [(FV.int .u32 n12)])) ∧ (∃ s8 : ByteArray, ((Fn Tryz.prog 125 [(TV.one (AV.fz (FV.int .i64 (IntKind.wrap .i64 n12))))] [] (TV.one (AV.fz (FV.str s8))) []) ∧ ((((decide ((IntKind.wrap .i64 ((((List.length x1) : Nat) : Int) - 1)) < (IntKind.wrap .i64 ((((List.length x1) : Nat) : Int) - 1)))) = true) → (∃ s9 : ByteArray, ((Fn Tryz.prog 126 [(TV.one (AV.fz (FV.str (ByteArray.mk #[48])))), (TV.one (AV.fz (FV.int .i64 (IntKind.wrap .i64 (9 - (((ByteArray.size s8) : Nat) : Int))))))] [] (TV.one (AV.fz (FV.str s9))) []) ∧ (∃ es12 : List (List FV), (∃ n13 : Int, ((Fn Tryz.prog 65 [(TV.one (AV.ptr 0 0 0 0)), (TV.one (AV.fz (FV.str s9)))] [(Ob.g 88 [(AV.fz FV.nilp), (AV.nsl 1)])] (TV.tup [(false, [(AV.fz (FV.int .i64 n13))]), (false, [(AV.fz (FV.ifc false))])]) [(Ob.g 88 [(AV.ptr 0 0 0 0), (AV.ofl 1 1)]), (Ob.f 5 1 es12)]) ∧ (∃ es13 : List (List FV), (∃ n14 : Int, ((Fn Tryz.prog 65 [(TV.one (AV.ptr 0 0 0 0)), (TV.one (AV.fz (FV.str s8)))] [(Ob.g 88 [(AV.ptr 0 0 0 0), (AV.ofl 1 1)]), (Ob.f 5 1 es12)] (TV.tup [(false, [(AV.fz (FV.int .i64 n14))]), (false, [(AV.fz (FV.ifc false))])]) [(Ob.g 88 [(AV.ptr 0 0 0 0), (AV.ofl 1 2)]), Ob.no, (Ob.f 5 1 es13)]) ∧ (num_Text_L0 R x0 x1 (IntKind.wrap .i64 ((IntKind.wrap .i64 ((((List.length x1) : Nat) : Int) - 1)) - 1)) es13)))))))))) ∧ (((decide ((IntKind.wrap .i64 ((((List.length x1) : Nat) : Int) - 1)) < (IntKind.wrap .i64 ((((List.length x1) : Nat) : Int) - 1)))) = false) → (∃ es14 : List (List FV), (∃ n15 : Int, ((Fn Tryz.prog 65 [(TV.one (AV.ptr 0 0 0 0)), (TV.one (AV.fz (FV.str s8)))] [(Ob.g 88 [(AV.fz FV.nilp), (AV.nsl 1)])] (TV.tup [(false, [(AV.fz (FV.int .i64 n15))]), (false, [(AV.fz (FV.ifc false))])]) [(Ob.g 88 [(AV.ptr 0 0 0 0), (AV.ofl 1 1)]), (Ob.f 5 1 es14)]) ∧ (num_Text_L0 R x0 x1 (IntKind.wrap .i64 ((IntKind.wrap .i64 ((((List.length x1) : Nat) : Int) - 1)) - 1)) es14)))))))))))) ∧ (((decide ((0 : Int) ≤ (IntKind.wrap .i64 ((((List.length x1) : Nat) : Int) - 1)))) = false) → False))
theorem num_Text_l1 {R : TV → List Ob → Prop} {x0 : Bool} {x1 : List (List FV)} (h : num_Text_R1 R x0 x1) : num_Text_L1 R x0 x1 :=
  LoopAt.by_tr (by kernel_rfl) (by kernel_rfl) h
def num_Text_H (R : TV → List Ob → Prop) (x0 : Bool) (x1 : List (List FV)) : Prop :=
  (∃ b1 : Bool, ((Fn Tryz.prog 124 [(TV.agg [(AV.fz (FV.bool x0)), (AV.fz (FV.sl 1 x1))])] [] (TV.one (AV.fz (FV.bool b1))) []) ∧ ((((Bool.not b1) = true) → (R (TV.one (AV.fz (FV.str (ByteArray.mk #[])))) [])) ∧ (((Bool.not b1) = false) → (((((((List.length x1) : Nat) : Int) == 0) = true) → (R (TV.one (AV.fz (FV.str (ByteArray.mk #[48])))) [])) ∧ ((((((List.length x1) : Nat) : Int) == 0) = false) → (((x0 = true) → (∃ es12 : List (List FV), ((Fn Tryz.prog 63 [(TV.one (AV.ptr 0 0 0 0)), (TV.one (AV.fz (FV.int .u8 45)))] [(Ob.g 88 [(AV.fz FV.nilp), (AV.nsl 1)])] (TV.one (AV.fz (FV.ifc false))) [(Ob.g 88 [(AV.ptr 0 0 0 0), (AV.ofl 1 1)]), (Ob.f 5 1 es12)]) ∧ (num_Text_L0 R x0 x1 (IntKind.wrap .i64 ((((List.length x1) : Nat) : Int) - 1)) es12)))) ∧ ((x0 = false) → (num_Text_L1 R x0 x1)))))))))
theorem num_Text_fn (x0 : Bool) (x1 : List (List FV)) {r : TV} {h : List Ob} (H : num_Text_H (fun r' h' => r' = r ∧ h' = h) x0 x1) : Fn Tryz.prog 94 [(TV.agg [(AV.fz (FV.bool x0)), (AV.fz (FV.sl 1 x1))])] [] r h :=
  Fn.by_tr (M := (modeOf [] [(63, [(Sig.mk 1 [(false, [(AT.a (AV.fz (FV.ifc false)))])] [(OT.g 88 [(AT.a (AV.ptr 0 0 0 0)), (AT.a (AV.ofl 1 1))]), (OT.f 5 1)] 0), (Sig.mk 2 [(false, [(AT.a (AV.fz (FV.ifc false)))])] [(OT.g 88 [(AT.a (AV.ptr 0 0 0 0)), (AT.a (AV.ofl 1 2))]), OT.no, (OT.f 5 1)] 0)]), (65, [(Sig.mk 1 [(false, [(AT.k (CK.int .i64))]), (false, [(AT.a (AV.fz (FV.ifc false)))])] [(OT.g 88 [(AT.a (AV.ptr 0 0 0 0)), (AT.a (AV.ofl 1 1))]), (OT.f 5 1)] 0), (Sig.mk 2 [(false, [(AT.k (CK.int .i64))]), (false, [(AT.a (AV.fz (FV.ifc false)))])] [(OT.g 88 [(AT.a (AV.ptr 0 0 0 0)), (AT.a (AV.ofl 1 2))]), OT.no, (OT.f 5 1)] 0)]), (59, [(Sig.mk 2 [(false, [(AT.k CK.str)])] [(OT.g 88 [(AT.a (AV.ptr 0 0 0 0)), (AT.a (AV.ofl 1 1))]), (OT.z 1)] 0)])])) (lv := num_Text_lv) (own := none) (F := Tryz.f94) (by kernel_rfl) (by kernel_rfl) (by first | decide | simp) (fun _ _ h => h) (by kernel_rfl) H
end Go.Proofs.YtejefchehdifhaaGreatDoor.Ev
end
section
set_option linter.unusedVariables false
namespace Go.Proofs.YtejefchehdifhaaGreatDoor.Ev
open Go Go.RowKit
theorem RepH.below {P : Program} {ext : Nat → Prop} {w0 : World} {own0 : Own0} {locs : Nat → Option Loc} {w w' : World} (H : RepH P ext w0 own0 locs [] w) (hb : Below w.heap.size w w') : RepH P ext w0 own0 locs [] w' := by
  have hown : ∀ b, ¬ ownB locs [] b := by rintro b ⟨o, l, d, ob, h1, _⟩; simp at h1
  refine ⟨H.len, fun o ob ho => by simp at ho, fun o o' l l' ob ob' d d' _ ho => by simp at ho, fun b _ hb => hown b hb, fun b hb' => Nat.lt_of_lt_of_le (H.extlt b hb') hb.size, fun b _ hb => absurd hb (hown b), ?_, H.base, H.pins⟩
  exact ⟨Nat.le_trans H.since.size hb.size, fun b hlt hn => (hb.block b (Nat.lt_of_lt_of_le hlt H.since.size)).trans (H.since.block b hlt hn), hb.os.trans H.since.os, hb.tape.trans H.since.tape, hb.output.trans H.since.output⟩
def bareV : FV → Option Value
  | .int k n => some (.int k n)
  | .bool b => some (.bool b)
  | .str s => some (.string s)
  | _ => none
theorem bareV_ok {w : World} {B : Nat → Prop} {x : FV} {v u : Value} (h : bareV x = some v) (hr : RF w B x u) : u = v := by
  cases x <;> cases h <;> cases hr <;> rfl
theorem bareV_rep {w : World} {B : Nat → Prop} {x : FV} {v : Value} (h : bareV x = some v) : RF w B x v := by
  cases x <;> cases h <;> constructor
theorem args_bare {w : World} {B : Nat → Prop} {locs : Nat → Option Loc} : ∀ (xs : List FV) (vs vals : List Value), xs.mapM bareV = some vs → vals.length = xs.length →
    (∀ (i : Nat) (x : TV), (xs.map fun x => TV.one (.fz x))[i]? = some x → ∃ v, vals[i]? = some v ∧ RT w B locs x v) → vals = vs
  | [], vs, vals, h, hl, _ => by
    simp at h hl
    rw [hl, ← h]
  | x :: xs, vs, [], h, hl, _ => by simp at hl
  | x :: xs, vs, v :: vals, h, hl, hr => by
    simp only [List.mapM_cons, Option.bind_eq_bind, Option.bind_eq_some_iff, Option.pure_def, Option.some.injEq] at h
    obtain ⟨u, hu, us, hus, rfl⟩ := h
    obtain ⟨v', hv', hr'⟩ := hr 0 _ rfl
    cases hv'
    have h1 := bareV_ok hu hr'
    have h2 := args_bare xs us vals hus (by simpa using hl) (fun i y hy => hr (i + 1) y (by simpa using hy))
    rw [h1, h2]
theorem Fn.of_below {P : Program} {f : FuncId} (xs : List FV) {vs : List Value} {r : FV} {v : Value} (hx : xs.mapM bareV = some vs) (hr : bareV r = some v)
    (hc : ∀ w, Glob w → Calls P f vs.toArray w fun e w' => e = .returned v ∧ Below w.heap.size w w') : Fn P f (xs.map fun x => .one (.fz x)) [] (.one (.fz r)) [] := by
  intro ext w locs vals H hsz hrep
  have e : vals = vs.toArray := by
    have := args_bare xs vs vals.toList hx (by simpa using hsz) (fun i x h => by obtain ⟨v, h1, h2⟩ := hrep i x h; exact ⟨v, by simpa using h1, h2⟩)
    rw [← this]
  subst e
  refine (hc w H.glob).mono ?_
  rintro e w' ⟨rfl, hb⟩
  exact ⟨v, locs, rfl, H.below hb, bareV_rep hr⟩
end Go.Proofs.YtejefchehdifhaaGreatDoor.Ev
end
section
namespace Go.Proofs
open Go.Shelf
def Tryz.lays161_ren : Go.Shelf.Ren := ⟨fun | 161 => 84 | 231 => 109 | 227 => 111 | 233 => 112 | 235 => 114 | 228 => 132 | 197 => 64 | 151 => 133 | 260 => 99 | 152 => 156 | 137 => 89 | 119 => 75 | 224 => 172 | 225 => 173 | 217 => 120 | 266 => 140 | n => n, fun | 9 => 9 | 4 => 4 | 3 => 3 | 5 => 5 | 117 => 150 | 116 => 149 | 0 => 0 | 124 => 153 | 105 => 99 | 21 => 21 | 119 => 163 | 46 => 164 | 139 => 167 | 138 => 166 | n => n, fun | 3 => 2 | 4 => 3 | n => n⟩
theorem Tryz.lays161 : Go.Proofs.Lays.n161 Tryz.prog Tryz.lays161_ren := {
  mixed := by kernel_rfl
  f119 := Tryz.func75.trans (congrArg some (by kernel_rfl))
  f137 := Tryz.func89.trans (congrArg some (by kernel_rfl))
  f151 := Tryz.func133.trans (congrArg some (by kernel_rfl))
  f152 := Tryz.func156.trans (congrArg some (by kernel_rfl))
  f161 := Tryz.func84.trans (congrArg some (by kernel_rfl))
  f197 := Tryz.func64.trans (congrArg some (by kernel_rfl))
  f217 := Tryz.func120.trans (congrArg some (by kernel_rfl))
  f224 := Tryz.func172.trans (congrArg some (by kernel_rfl))
  f225 := Tryz.func173.trans (congrArg some (by kernel_rfl))
  f227 := Tryz.func111.trans (congrArg some (by kernel_rfl))
  f228 := Tryz.func132.trans (congrArg some (by kernel_rfl))
  f231 := Tryz.func109.trans (congrArg some (by kernel_rfl))
  f233 := Tryz.func112.trans (congrArg some (by kernel_rfl))
  f235 := Tryz.func114.trans (congrArg some (by kernel_rfl))
  f260 := Tryz.func99.trans (congrArg some (by kernel_rfl))
  f266 := Tryz.func140.trans (congrArg some (by kernel_rfl))
  t0 := Tryz.underlying0
  a0 := Tryz.isAgg0
  z0 := Tryz.sizeOf0
  v0 := Tryz.zeroValue0
  t3 := Tryz.underlying3
  a3 := Tryz.isAgg3
  z3 := Tryz.sizeOf3
  v3 := Tryz.zeroValue3
  t4 := Tryz.underlying4
  a4 := Tryz.isAgg4
  z4 := Tryz.sizeOf4
  v4 := Tryz.zeroValue4
  t5 := Tryz.underlying5
  a5 := Tryz.isAgg5
  z5 := Tryz.sizeOf5
  v5 := Tryz.zeroValue5
  t9 := Tryz.underlying9
  a9 := Tryz.isAgg9
  z9 := Tryz.sizeOf9
  v9 := Tryz.zeroValue9
  t21 := Tryz.underlying21
  a21 := Tryz.isAgg21
  z21 := Tryz.sizeOf21
  v21 := Tryz.zeroValue21
  t46 := Tryz.underlying164
  a46 := Tryz.isAgg164
  z46 := Tryz.sizeOf164
  v46 := Tryz.zeroValue164
  t105 := Tryz.underlying99
  a105 := Tryz.isAgg99
  z105 := Tryz.sizeOf99
  v105 := Tryz.zeroValue99
  t116 := Tryz.underlying149
  a116 := Tryz.isAgg149
  z116 := Tryz.sizeOf149
  t117 := Tryz.underlying150
  a117 := Tryz.isAgg150
  z117 := Tryz.sizeOf150
  v117 := Tryz.zeroValue150
  t119 := Tryz.underlying163
  a119 := Tryz.isAgg163
  z119 := Tryz.sizeOf163
  t124 := Tryz.underlying153
  a124 := Tryz.isAgg153
  z124 := Tryz.sizeOf153
  v124 := Tryz.zeroValue153
  t138 := Tryz.underlying166
  a138 := Tryz.isAgg166
  z138 := Tryz.sizeOf166
  v138 := Tryz.zeroValue166
  t139 := Tryz.underlying167
  a139 := Tryz.isAgg167
  z139 := Tryz.sizeOf167
  v139 := Tryz.zeroValue167
  g3 := by kernel_rfl
  g4 := by kernel_rfl }
open Go.RowKit in
theorem Tryz.strings_TrimLeft_one (s : ByteArray) (c : UInt8) (hc : c.toNat < 128) (w : World) :
    Calls Tryz.prog 84 #[.string s, .string ⟨#[c]⟩] w fun e w' => e = .returned (.string ⟨(Lib.trimLeftB s.data.toList c).toArray⟩) ∧ w' = w := Any.strings_TrimLeft_one Tryz.lays161 s c hc w
def Tryz.lays160_ren : Go.Shelf.Ren := ⟨fun | 160 => 83 | 232 => 110 | 231 => 109 | 227 => 111 | 234 => 113 | 233 => 112 | 236 => 115 | 235 => 114 | 228 => 132 | 271 => 134 | 151 => 133 | 197 => 64 | 120 => 157 | 152 => 156 | 260 => 99 | 137 => 89 | 119 => 75 | 224 => 172 | 225 => 173 | 217 => 120 | 266 => 140 | n => n, fun | 9 => 9 | 4 => 4 | 3 => 3 | 5 => 5 | 117 => 150 | 116 => 149 | 0 => 0 | 124 => 153 | 21 => 21 | 105 => 99 | 46 => 164 | 119 => 163 | 139 => 167 | 138 => 166 | n => n, fun | 3 => 2 | 4 => 3 | n => n⟩
theorem Tryz.lays160 : Go.Proofs.Lays.n160 Tryz.prog Tryz.lays160_ren := {
  mixed := by kernel_rfl
  f119 := Tryz.func75.trans (congrArg some (by kernel_rfl))
  f120 := Tryz.func157.trans (congrArg some (by kernel_rfl))
  f137 := Tryz.func89.trans (congrArg some (by kernel_rfl))
  f151 := Tryz.func133.trans (congrArg some (by kernel_rfl))
  f152 := Tryz.func156.trans (congrArg some (by kernel_rfl))
  f160 := Tryz.func83.trans (congrArg some (by kernel_rfl))
  f197 := Tryz.func64.trans (congrArg some (by kernel_rfl))
  f217 := Tryz.func120.trans (congrArg some (by kernel_rfl))
  f224 := Tryz.func172.trans (congrArg some (by kernel_rfl))
  f225 := Tryz.func173.trans (congrArg some (by kernel_rfl))
  f227 := Tryz.func111.trans (congrArg some (by kernel_rfl))
  f228 := Tryz.func132.trans (congrArg some (by kernel_rfl))
  f231 := Tryz.func109.trans (congrArg some (by kernel_rfl))
  f232 := Tryz.func110.trans (congrArg some (by kernel_rfl))
  f233 := Tryz.func112.trans (congrArg some (by kernel_rfl))
  f234 := Tryz.func113.trans (congrArg some (by kernel_rfl))
  f235 := Tryz.func114.trans (congrArg some (by kernel_rfl))
  f236 := Tryz.func115.trans (congrArg some (by kernel_rfl))
  f260 := Tryz.func99.trans (congrArg some (by kernel_rfl))
  f266 := Tryz.func140.trans (congrArg some (by kernel_rfl))
  f271 := Tryz.func134.trans (congrArg some (by kernel_rfl))
  t0 := Tryz.underlying0
  a0 := Tryz.isAgg0
  z0 := Tryz.sizeOf0
  v0 := Tryz.zeroValue0
  t3 := Tryz.underlying3
  a3 := Tryz.isAgg3
  z3 := Tryz.sizeOf3
  v3 := Tryz.zeroValue3
  t4 := Tryz.underlying4
  a4 := Tryz.isAgg4
  z4 := Tryz.sizeOf4
  v4 := Tryz.zeroValue4
  t5 := Tryz.underlying5
  a5 := Tryz.isAgg5
  z5 := Tryz.sizeOf5
  v5 := Tryz.zeroValue5
  t9 := Tryz.underlying9
  a9 := Tryz.isAgg9
  z9 := Tryz.sizeOf9
  v9 := Tryz.zeroValue9
  t21 := Tryz.underlying21
  a21 := Tryz.isAgg21
  z21 := Tryz.sizeOf21
  v21 := Tryz.zeroValue21
  t46 := Tryz.underlying164
  a46 := Tryz.isAgg164
  z46 := Tryz.sizeOf164
  v46 := Tryz.zeroValue164
  t105 := Tryz.underlying99
  a105 := Tryz.isAgg99
  z105 := Tryz.sizeOf99
  v105 := Tryz.zeroValue99
  t116 := Tryz.underlying149
  a116 := Tryz.isAgg149
  z116 := Tryz.sizeOf149
  t117 := Tryz.underlying150
  a117 := Tryz.isAgg150
  z117 := Tryz.sizeOf150
  v117 := Tryz.zeroValue150
  t119 := Tryz.underlying163
  a119 := Tryz.isAgg163
  z119 := Tryz.sizeOf163
  t124 := Tryz.underlying153
  a124 := Tryz.isAgg153
  z124 := Tryz.sizeOf153
  v124 := Tryz.zeroValue153
  t138 := Tryz.underlying166
  a138 := Tryz.isAgg166
  z138 := Tryz.sizeOf166
  v138 := Tryz.zeroValue166
  t139 := Tryz.underlying167
  a139 := Tryz.isAgg167
  z139 := Tryz.sizeOf167
  v139 := Tryz.zeroValue167
  g3 := by kernel_rfl
  g4 := by kernel_rfl }
def Tryz.lays137_ren : Go.Shelf.Ren := ⟨fun | 137 => 89 | 217 => 120 | 266 => 140 | n => n, fun | 9 => 9 | 5 => 5 | 3 => 3 | n => n, fun | n => n⟩
theorem Tryz.lays137 : Go.Proofs.Lays.n137 Tryz.prog Tryz.lays137_ren := {
  mixed := by kernel_rfl
  f137 := Tryz.func89.trans (congrArg some (by kernel_rfl))
  f217 := Tryz.func120.trans (congrArg some (by kernel_rfl))
  f266 := Tryz.func140.trans (congrArg some (by kernel_rfl))
  t3 := Tryz.underlying3
  a3 := Tryz.isAgg3
  z3 := Tryz.sizeOf3
  v3 := Tryz.zeroValue3
  t5 := Tryz.underlying5
  a5 := Tryz.isAgg5
  z5 := Tryz.sizeOf5
  v5 := Tryz.zeroValue5
  t9 := Tryz.underlying9
  a9 := Tryz.isAgg9
  z9 := Tryz.sizeOf9
  v9 := Tryz.zeroValue9 }
open Go.RowKit in
theorem Tryz.strings_IndexByte (s : ByteArray) (c : Int) (w : World) :
    Calls Tryz.prog 89 #[.string s, .int .u8 c] w fun e w' => e = .returned (.int .i64 (Lib.indexByte s.data.toList c.toNat.toUInt8)) ∧ w' = w := Any.strings_IndexByte Tryz.lays137 s c w
def Tryz.laysM171_ren : Go.Shelf.Ren := ⟨fun | 171 => 125 | 243 => 144 | 246 => 128 | 283 => 148 | 284 => 149 | 285 => 150 | 286 => 151 | 129 => 166 | 317 => 165 | 318 => 167 | 319 => 168 | 320 => 169 | 337 => 177 | 338 => 178 | n => n, fun | 3 => 3 | 9 => 9 | 2 => 2 | 4 => 4 | 171 => 182 | 0 => 0 | 53 => 183 | 37 => 51 | 5 => 5 | 173 => 186 | 212 => 202 | 51 => 116 | 20 => 20 | 213 => 203 | 46 => 164 | 232 => 211 | 233 => 212 | n => n, fun | 17 => 7 | 18 => 8 | 19 => 9 | n => n⟩
theorem Tryz.laysM171 : Go.Proofs.LaysM.n171 Tryz.prog Tryz.laysM171_ren := {
  mixed := by kernel_rfl
  f129 := Tryz.func166.trans (congrArg some (by kernel_rfl))
  f171 := Tryz.func125.trans (congrArg some (by kernel_rfl))
  f243 := Tryz.func144.trans (congrArg some (by kernel_rfl))
  f246 := Tryz.func128.trans (congrArg some (by kernel_rfl))
  f283 := Tryz.func148.trans (congrArg some (by kernel_rfl))
  f284 := Tryz.func149.trans (congrArg some (by kernel_rfl))
  f285 := Tryz.func150.trans (congrArg some (by kernel_rfl))
  f286 := Tryz.func151.trans (congrArg some (by kernel_rfl))
  f317 := Tryz.func165.trans (congrArg some (by kernel_rfl))
  f318 := Tryz.func167.trans (congrArg some (by kernel_rfl))
  f319 := Tryz.func168.trans (congrArg some (by kernel_rfl))
  f320 := Tryz.func169.trans (congrArg some (by kernel_rfl))
  f337 := Tryz.func177.trans (congrArg some (by kernel_rfl))
  f338 := Tryz.func178.trans (congrArg some (by kernel_rfl))
  t0 := Tryz.underlying0
  a0 := Tryz.isAgg0
  z0 := Tryz.sizeOf0
  v0 := Tryz.zeroValue0
  t2 := Tryz.underlying2
  a2 := Tryz.isAgg2
  z2 := Tryz.sizeOf2
  v2 := Tryz.zeroValue2
  t3 := Tryz.underlying3
  a3 := Tryz.isAgg3
  z3 := Tryz.sizeOf3
  v3 := Tryz.zeroValue3
  t4 := Tryz.underlying4
  a4 := Tryz.isAgg4
  z4 := Tryz.sizeOf4
  v4 := Tryz.zeroValue4
  t5 := Tryz.underlying5
  a5 := Tryz.isAgg5
  z5 := Tryz.sizeOf5
  v5 := Tryz.zeroValue5
  t9 := Tryz.underlying9
  a9 := Tryz.isAgg9
  z9 := Tryz.sizeOf9
  v9 := Tryz.zeroValue9
  t20 := Tryz.underlying20
  a20 := Tryz.isAgg20
  z20 := Tryz.sizeOf20
  v20 := Tryz.zeroValue20
  t37 := Tryz.underlying51
  a37 := Tryz.isAgg51
  z37 := Tryz.sizeOf51
  v37 := Tryz.zeroValue51
  t46 := Tryz.underlying164
  a46 := Tryz.isAgg164
  z46 := Tryz.sizeOf164
  v46 := Tryz.zeroValue164
  t51 := Tryz.underlying116
  a51 := Tryz.isAgg116
  z51 := Tryz.sizeOf116
  v51 := Tryz.zeroValue116
  t53 := Tryz.underlying183
  a53 := Tryz.isAgg183
  z53 := Tryz.sizeOf183
  v53 := Tryz.zeroValue183
  t171 := Tryz.underlying182
  a171 := Tryz.isAgg182
  z171 := Tryz.sizeOf182
  v171 := Tryz.zeroValue182
  t173 := Tryz.underlying186
  a173 := Tryz.isAgg186
  z173 := Tryz.sizeOf186
  v173 := Tryz.zeroValue186
  t212 := Tryz.underlying202
  a212 := Tryz.isAgg202
  z212 := Tryz.sizeOf202
  v212 := Tryz.zeroValue202
  t213 := Tryz.underlying203
  a213 := Tryz.isAgg203
  z213 := Tryz.sizeOf203
  t232 := Tryz.underlying211
  a232 := Tryz.isAgg211
  z232 := Tryz.sizeOf211
  v232 := Tryz.zeroValue211
  t233 := Tryz.underlying212
  a233 := Tryz.isAgg212
  z233 := Tryz.sizeOf212
  v233 := Tryz.zeroValue212
  g17 := by kernel_rfl
  g18 := by kernel_rfl
  g19 := by kernel_rfl
  i0 := by kernel_rfl
  i2 := by kernel_rfl
  i3 := by kernel_rfl
  i4 := by kernel_rfl
  i5 := by kernel_rfl
  i9 := by kernel_rfl
  i20 := by kernel_rfl
  i37 := by kernel_rfl
  i46 := by kernel_rfl
  i51 := by kernel_rfl
  i53 := by kernel_rfl
  i171 := by kernel_rfl
  i173 := by kernel_rfl
  i212 := by kernel_rfl
  i232 := by kernel_rfl
  i233 := by kernel_rfl
  m17 := by kernel_rfl
  m18 := by kernel_rfl
  m19 := by kernel_rfl }
open Go.RowKit Go.Sort Go.Lib in
theorem Tryz.strconv_Itoa (n : Int) (h0 : -9223372036854775808 ≤ n) (h1 : n ≤ 9223372036854775807) (w : World) (htab : Lib.TabIs Tryz.prog w "internal/strconv.uint64pow10" .u64 Lib.pow10Tab) :
    Calls Tryz.prog 125 #[.int .i64 n] w fun e w' => e = .returned (.string ⟨(Lib.itoa n).toArray⟩) ∧ ∃ k os, w' = grow (w.drewN k) os := Any.strconv_Itoa Tryz.laysM171 n h0 h1 w htab
def Tryz.laysC172_ren : Go.Shelf.Ren := ⟨fun | 172 => 85 | 244 => 116 | 245 => 117 | 247 => 135 | 279 => 136 | 280 => 137 | 281 => 138 | 282 => 139 | 287 => 158 | 316 => 159 | 171 => 125 | 205 => 160 | 321 => 174 | 322 => 175 | 243 => 144 | 246 => 128 | 283 => 148 | 284 => 149 | 285 => 150 | 286 => 151 | 129 => 166 | 317 => 165 | 318 => 167 | 319 => 168 | 320 => 169 | 337 => 177 | 338 => 178 | n => n, fun | 9 => 9 | 3 => 3 | 75 => 97 | 76 => 101 | 4 => 4 | 5 => 5 | 167 => 172 | 37 => 51 | 0 => 0 | 85 => 173 | 2 => 2 | 168 => 175 | 53 => 183 | 175 => 190 | 46 => 164 | 210 => 194 | 127 => 134 | 145 => 209 | 143 => 207 | 21 => 21 | 171 => 182 | 173 => 186 | 212 => 202 | 51 => 116 | 20 => 20 | 213 => 203 | 232 => 211 | 233 => 212 | 80 => 92 | n => n, fun | 15 => 4 | 16 => 5 | 17 => 7 | 18 => 8 | 19 => 9 | n => n⟩
theorem Tryz.laysC172 : Go.Proofs.LaysC.n172 Tryz.prog Tryz.laysC172_ren := {
  mixed := by kernel_rfl
  f129 := Tryz.func166.trans (congrArg some (by kernel_rfl))
  f171 := Tryz.func125.trans (congrArg some (by kernel_rfl))
  f172 := Tryz.func85.trans (congrArg some (by kernel_rfl))
  f205 := Tryz.func160.trans (congrArg some (by kernel_rfl))
  f243 := Tryz.func144.trans (congrArg some (by kernel_rfl))
  f244 := Tryz.func116.trans (congrArg some (by kernel_rfl))
  f245 := Tryz.func117.trans (congrArg some (by kernel_rfl))
  f246 := Tryz.func128.trans (congrArg some (by kernel_rfl))
  f247 := Tryz.func135.trans (congrArg some (by kernel_rfl))
  f279 := Tryz.func136.trans (congrArg some (by kernel_rfl))
  f280 := Tryz.func137.trans (congrArg some (by kernel_rfl))
  f281 := Tryz.func138.trans (congrArg some (by kernel_rfl))
  f282 := Tryz.func139.trans (congrArg some (by kernel_rfl))
  f283 := Tryz.func148.trans (congrArg some (by kernel_rfl))
  f284 := Tryz.func149.trans (congrArg some (by kernel_rfl))
  f285 := Tryz.func150.trans (congrArg some (by kernel_rfl))
  f286 := Tryz.func151.trans (congrArg some (by kernel_rfl))
  f287 := Tryz.func158.trans (congrArg some (by kernel_rfl))
  f316 := Tryz.func159.trans (congrArg some (by kernel_rfl))
  f317 := Tryz.func165.trans (congrArg some (by kernel_rfl))
  f318 := Tryz.func167.trans (congrArg some (by kernel_rfl))
  f319 := Tryz.func168.trans (congrArg some (by kernel_rfl))
  f320 := Tryz.func169.trans (congrArg some (by kernel_rfl))
  f321 := Tryz.func174.trans (congrArg some (by kernel_rfl))
  f322 := Tryz.func175.trans (congrArg some (by kernel_rfl))
  f337 := Tryz.func177.trans (congrArg some (by kernel_rfl))
  f338 := Tryz.func178.trans (congrArg some (by kernel_rfl))
  t0 := Tryz.underlying0
  a0 := Tryz.isAgg0
  z0 := Tryz.sizeOf0
  v0 := Tryz.zeroValue0
  t2 := Tryz.underlying2
  a2 := Tryz.isAgg2
  z2 := Tryz.sizeOf2
  v2 := Tryz.zeroValue2
  t3 := Tryz.underlying3
  a3 := Tryz.isAgg3
  z3 := Tryz.sizeOf3
  v3 := Tryz.zeroValue3
  t4 := Tryz.underlying4
  a4 := Tryz.isAgg4
  z4 := Tryz.sizeOf4
  v4 := Tryz.zeroValue4
  t5 := Tryz.underlying5
  a5 := Tryz.isAgg5
  z5 := Tryz.sizeOf5
  v5 := Tryz.zeroValue5
  t9 := Tryz.underlying9
  a9 := Tryz.isAgg9
  z9 := Tryz.sizeOf9
  v9 := Tryz.zeroValue9
  t20 := Tryz.underlying20
  a20 := Tryz.isAgg20
  z20 := Tryz.sizeOf20
  v20 := Tryz.zeroValue20
  t21 := Tryz.underlying21
  a21 := Tryz.isAgg21
  z21 := Tryz.sizeOf21
  v21 := Tryz.zeroValue21
  t37 := Tryz.underlying51
  a37 := Tryz.isAgg51
  z37 := Tryz.sizeOf51
  v37 := Tryz.zeroValue51
  t46 := Tryz.underlying164
  a46 := Tryz.isAgg164
  z46 := Tryz.sizeOf164
  v46 := Tryz.zeroValue164
  t51 := Tryz.underlying116
  a51 := Tryz.isAgg116
  z51 := Tryz.sizeOf116
  v51 := Tryz.zeroValue116
  t53 := Tryz.underlying183
  a53 := Tryz.isAgg183
  z53 := Tryz.sizeOf183
  v53 := Tryz.zeroValue183
  t75 := Tryz.underlying97
  a75 := Tryz.isAgg97
  z75 := Tryz.sizeOf97
  v75 := Tryz.zeroValue97
  t76 := Tryz.underlying101
  a76 := Tryz.isAgg101
  z76 := Tryz.sizeOf101
  v76 := Tryz.zeroValue101
  t85 := Tryz.underlying173
  a85 := Tryz.isAgg173
  z85 := Tryz.sizeOf173
  v85 := Tryz.zeroValue173
  t127 := Tryz.underlying134
  a127 := Tryz.isAgg134
  z127 := Tryz.sizeOf134
  v127 := Tryz.zeroValue134
  t143 := Tryz.underlying207
  a143 := Tryz.isAgg207
  z143 := Tryz.sizeOf207
  v143 := Tryz.zeroValue207
  t145 := Tryz.underlying209
  a145 := Tryz.isAgg209
  z145 := Tryz.sizeOf209
  v145 := Tryz.zeroValue209
  t167 := Tryz.underlying172
  a167 := Tryz.isAgg172
  z167 := Tryz.sizeOf172
  v167 := Tryz.zeroValue172
  t168 := Tryz.underlying175
  a168 := Tryz.isAgg175
  z168 := Tryz.sizeOf175
  v168 := Tryz.zeroValue175
  t171 := Tryz.underlying182
  a171 := Tryz.isAgg182
  z171 := Tryz.sizeOf182
  v171 := Tryz.zeroValue182
  t173 := Tryz.underlying186
  a173 := Tryz.isAgg186
  z173 := Tryz.sizeOf186
  v173 := Tryz.zeroValue186
  t175 := Tryz.underlying190
  a175 := Tryz.isAgg190
  z175 := Tryz.sizeOf190
  v175 := Tryz.zeroValue190
  t210 := Tryz.underlying194
  a210 := Tryz.isAgg194
  z210 := Tryz.sizeOf194
  v210 := Tryz.zeroValue194
  t212 := Tryz.underlying202
  a212 := Tryz.isAgg202
  z212 := Tryz.sizeOf202
  v212 := Tryz.zeroValue202
  t213 := Tryz.underlying203
  a213 := Tryz.isAgg203
  z213 := Tryz.sizeOf203
  t232 := Tryz.underlying211
  a232 := Tryz.isAgg211
  z232 := Tryz.sizeOf211
  v232 := Tryz.zeroValue211
  t233 := Tryz.underlying212
  a233 := Tryz.isAgg212
  z233 := Tryz.sizeOf212
  v233 := Tryz.zeroValue212
  g15 := by kernel_rfl
  g16 := by kernel_rfl
  g17 := by kernel_rfl
  g18 := by kernel_rfl
  g19 := by kernel_rfl
  t80 := Tryz.underlying92
  a80 := Tryz.isAgg92
  z80 := Tryz.sizeOf92
  v80 := Tryz.zeroValue92
  i0 := by kernel_rfl
  i2 := by kernel_rfl
  i3 := by kernel_rfl
  i4 := by kernel_rfl
  i5 := by kernel_rfl
  i9 := by kernel_rfl
  i20 := by kernel_rfl
  i21 := by kernel_rfl
  i37 := by kernel_rfl
  i46 := by kernel_rfl
  i51 := by kernel_rfl
  i53 := by kernel_rfl
  i75 := by kernel_rfl
  i76 := by kernel_rfl
  i80 := by kernel_rfl
  i85 := by kernel_rfl
  i127 := by kernel_rfl
  i143 := by kernel_rfl
  i145 := by kernel_rfl
  i167 := by kernel_rfl
  i168 := by kernel_rfl
  i171 := by kernel_rfl
  i173 := by kernel_rfl
  i175 := by kernel_rfl
  i210 := by kernel_rfl
  i212 := by kernel_rfl
  i232 := by kernel_rfl
  i233 := by kernel_rfl
  m15 := by kernel_rfl
  m16 := by kernel_rfl
  m17 := by kernel_rfl
  m18 := by kernel_rfl
  m19 := by kernel_rfl
  c0 := by kernel_rfl
  c2 := by kernel_rfl
  c3 := by kernel_rfl
  c4 := by kernel_rfl
  c5 := by kernel_rfl
  c9 := by kernel_rfl
  c20 := by kernel_rfl
  c21 := by kernel_rfl
  c37 := by kernel_rfl
  c46 := by kernel_rfl
  c51 := by kernel_rfl
  c53 := by kernel_rfl
  c75 := by kernel_rfl
  c76 := by kernel_rfl
  c80 := by kernel_rfl
  c85 := by kernel_rfl
  c127 := by kernel_rfl
  c143 := by kernel_rfl
  c145 := by kernel_rfl
  c167 := by kernel_rfl
  c168 := by kernel_rfl
  c171 := by kernel_rfl
  c173 := by kernel_rfl
  c175 := by kernel_rfl
  c210 := by kernel_rfl
  c212 := by kernel_rfl
  c213 := by kernel_rfl
  c232 := by kernel_rfl
  c233 := by kernel_rfl }
open Go.RowKit in
theorem Tryz.strconv_Atoi_ok (s : ByteArray) (hmax : s.size ≤ 9223372036854775806) (v : Int) (h : Lib.atoiAll s.data.toList = .ok v) (w : World) :
    Calls Tryz.prog 85 #[.string s] w fun e w' => e = .returned (.tuple #[.int .i64 v, .nilIface]) ∧ (w' = w ∨ ∃ t, w' = Lib.bytesWorld w 5 t) := Any.strconv_Atoi_ok Tryz.laysC172 s hmax v h w
open Go.RowKit in
theorem Tryz.strconv_Atoi_syntax (s : ByteArray) (hlim : s.size ≤ 281474976710656) (h : Lib.atoiAll s.data.toList = Lib.atoiAll []) (ev : Value) (w : World) (hv : w.cell? ⟨4, 0, none⟩ = some ev) (hev : ev = .nilIface ∨ ∃ te pe, ev = .iface te pe) :
    Calls Tryz.prog 85 #[.string s] w fun e w' => ∃ N, e = .returned (.tuple #[.int .i64 (0), .iface 175 (.pointer (some ⟨N, 0, none⟩))]) ∧ w.heap.size ≤ N ∧ w'.heap[N]? = some (.cells #[.string ⟨#[65, 116, 111, 105]⟩, .string s, ev] 194 (0, 0)) ∧ Below w.heap.size w w' := Any.strconv_Atoi_syntax Tryz.laysC172 s hlim h ev w hv hev
open Go.RowKit in
theorem Tryz.strconv_Atoi_range (s : ByteArray) (hlim : s.size ≤ 281474976710656) (h : Lib.atoiAll s.data.toList = .range) (ev : Value) (w : World) (hv : w.cell? ⟨5, 0, none⟩ = some ev) (hev : ev = .nilIface ∨ ∃ te pe, ev = .iface te pe) :
    Calls Tryz.prog 85 #[.string s] w fun e w' => ∃ N, e = .returned (.tuple #[.int .i64 (Lib.atoiSat s.data.toList), .iface 175 (.pointer (some ⟨N, 0, none⟩))]) ∧ w.heap.size ≤ N ∧ w'.heap[N]? = some (.cells #[.string ⟨#[65, 116, 111, 105]⟩, .string s, ev] 194 (0, 0)) ∧ Below w.heap.size w w' := Any.strconv_Atoi_range Tryz.laysC172 s hlim h ev w hv hev
def Tryz.lays99_ren : Go.Shelf.Ren := ⟨fun | 99 => 49 | 206 => 88 | n => n, fun | 9 => 9 | 4 => 4 | 3 => 3 | n => n, fun | n => n⟩
theorem Tryz.lays99 : Go.Proofs.Lays.n99 Tryz.prog Tryz.lays99_ren := {
  mixed := by kernel_rfl
  f99 := Tryz.func49.trans (congrArg some (by kernel_rfl))
  f206 := Tryz.func88.trans (congrArg some (by kernel_rfl))
  t3 := Tryz.underlying3
  a3 := Tryz.isAgg3
  z3 := Tryz.sizeOf3
  v3 := Tryz.zeroValue3
  t4 := Tryz.underlying4
  a4 := Tryz.isAgg4
  z4 := Tryz.sizeOf4
  v4 := Tryz.zeroValue4
  t9 := Tryz.underlying9
  a9 := Tryz.isAgg9
  z9 := Tryz.sizeOf9
  v9 := Tryz.zeroValue9 }
open Go.RowKit Go.Lib in
theorem Tryz.strings_HasPrefix (s p : ByteArray) (w : World) :
    Calls Tryz.prog 49 #[.string s, .string p] w fun e w' => e = .returned (.bool (Lib.hasPrefix s.data.toList p.data.toList)) ∧ w' = w := Any.strings_HasPrefix Tryz.lays99 s p w
def Tryz.lays101_ren : Go.Shelf.Ren := ⟨fun | 101 => 82 | 208 => 108 | 206 => 88 | n => n, fun | 9 => 9 | 4 => 4 | 3 => 3 | n => n, fun | n => n⟩
theorem Tryz.lays101 : Go.Proofs.Lays.n101 Tryz.prog Tryz.lays101_ren := {
  mixed := by kernel_rfl
  f101 := Tryz.func82.trans (congrArg some (by kernel_rfl))
  f206 := Tryz.func88.trans (congrArg some (by kernel_rfl))
  f208 := Tryz.func108.trans (congrArg some (by kernel_rfl))
  t3 := Tryz.underlying3
  a3 := Tryz.isAgg3
  z3 := Tryz.sizeOf3
  v3 := Tryz.zeroValue3
  t4 := Tryz.underlying4
  a4 := Tryz.isAgg4
  z4 := Tryz.sizeOf4
  v4 := Tryz.zeroValue4
  t9 := Tryz.underlying9
  a9 := Tryz.isAgg9
  z9 := Tryz.sizeOf9
  v9 := Tryz.zeroValue9 }
open Go.RowKit Go.Lib in
theorem Tryz.strings_TrimPrefix (s p : ByteArray) (w : World) :
    Calls Tryz.prog 82 #[.string s, .string p] w fun e w' => e = .returned (.string ⟨(Lib.trimPrefix s.data.toList p.data.toList).toArray⟩) ∧ w' = w := Any.strings_TrimPrefix Tryz.lays101 s p w
def Tryz.lays105_ren : Go.Shelf.Ren := ⟨fun | 105 => 126 | 212 => 145 | 99 => 49 | 165 => 146 | 166 => 65 | 170 => 147 | 169 => 59 | 263 => 162 | 264 => 163 | 206 => 88 | 240 => 98 | 241 => 164 | 276 => 127 | 277 => 176 | n => n, fun | 9 => 9 | 3 => 3 | 4 => 4 | 20 => 20 | 0 => 0 | 46 => 164 | 109 => 180 | 5 => 5 | 72 => 88 | 76 => 101 | 51 => 116 | 146 => 197 | 53 => 183 | 148 => 199 | 70 => 86 | 37 => 51 | 75 => 97 | 127 => 134 | 164 => 161 | 80 => 92 | n => n, fun | n => n⟩
theorem Tryz.lays105 : Go.Proofs.Lays.n105 Tryz.prog Tryz.lays105_ren := {
  mixed := by kernel_rfl
  f99 := Tryz.func49.trans (congrArg some (by kernel_rfl))
  f105 := Tryz.func126.trans (congrArg some (by kernel_rfl))
  f165 := Tryz.func146.trans (congrArg some (by kernel_rfl))
  f166 := Tryz.func65.trans (congrArg some (by kernel_rfl))
  f169 := Tryz.func59.trans (congrArg some (by kernel_rfl))
  f170 := Tryz.func147.trans (congrArg some (by kernel_rfl))
  f206 := Tryz.func88.trans (congrArg some (by kernel_rfl))
  f212 := Tryz.func145.trans (congrArg some (by kernel_rfl))
  f240 := Tryz.func98.trans (congrArg some (by kernel_rfl))
  f241 := Tryz.func164.trans (congrArg some (by kernel_rfl))
  f263 := Tryz.func162.trans (congrArg some (by kernel_rfl))
  f264 := Tryz.func163.trans (congrArg some (by kernel_rfl))
  f276 := Tryz.func127.trans (congrArg some (by kernel_rfl))
  f277 := Tryz.func176.trans (congrArg some (by kernel_rfl))
  t0 := Tryz.underlying0
  a0 := Tryz.isAgg0
  z0 := Tryz.sizeOf0
  v0 := Tryz.zeroValue0
  t3 := Tryz.underlying3
  a3 := Tryz.isAgg3
  z3 := Tryz.sizeOf3
  v3 := Tryz.zeroValue3
  t4 := Tryz.underlying4
  a4 := Tryz.isAgg4
  z4 := Tryz.sizeOf4
  v4 := Tryz.zeroValue4
  t5 := Tryz.underlying5
  a5 := Tryz.isAgg5
  z5 := Tryz.sizeOf5
  v5 := Tryz.zeroValue5
  t9 := Tryz.underlying9
  a9 := Tryz.isAgg9
  z9 := Tryz.sizeOf9
  v9 := Tryz.zeroValue9
  t20 := Tryz.underlying20
  a20 := Tryz.isAgg20
  z20 := Tryz.sizeOf20
  v20 := Tryz.zeroValue20
  t37 := Tryz.underlying51
  a37 := Tryz.isAgg51
  z37 := Tryz.sizeOf51
  v37 := Tryz.zeroValue51
  t46 := Tryz.underlying164
  a46 := Tryz.isAgg164
  z46 := Tryz.sizeOf164
  v46 := Tryz.zeroValue164
  t51 := Tryz.underlying116
  a51 := Tryz.isAgg116
  z51 := Tryz.sizeOf116
  v51 := Tryz.zeroValue116
  t53 := Tryz.underlying183
  a53 := Tryz.isAgg183
  z53 := Tryz.sizeOf183
  v53 := Tryz.zeroValue183
  t70 := Tryz.underlying86
  a70 := Tryz.isAgg86
  z70 := Tryz.sizeOf86
  v70 := Tryz.zeroValue86
  t72 := Tryz.underlying88
  a72 := Tryz.isAgg88
  z72 := Tryz.sizeOf88
  v72 := Tryz.zeroValue88
  t75 := Tryz.underlying97
  a75 := Tryz.isAgg97
  z75 := Tryz.sizeOf97
  v75 := Tryz.zeroValue97
  t76 := Tryz.underlying101
  a76 := Tryz.isAgg101
  z76 := Tryz.sizeOf101
  v76 := Tryz.zeroValue101
  t109 := Tryz.underlying180
  a109 := Tryz.isAgg180
  z109 := Tryz.sizeOf180
  v109 := Tryz.zeroValue180
  t127 := Tryz.underlying134
  a127 := Tryz.isAgg134
  z127 := Tryz.sizeOf134
  v127 := Tryz.zeroValue134
  t146 := Tryz.underlying197
  a146 := Tryz.isAgg197
  z146 := Tryz.sizeOf197
  v146 := Tryz.zeroValue197
  t148 := Tryz.underlying199
  a148 := Tryz.isAgg199
  z148 := Tryz.sizeOf199
  v148 := Tryz.zeroValue199
  t164 := Tryz.underlying161
  a164 := Tryz.isAgg161
  z164 := Tryz.sizeOf161
  v164 := Tryz.zeroValue161 }
theorem Tryz.Builder_Extra_105 : Builder.Extra Tryz.prog Tryz.lays105_ren := {
  sizeBuilder := by kernel_rfl
  liesBuilder := by kernel_rfl
  t5 := Tryz.underlying5
  a5 := Tryz.isAgg5
  z5 := Tryz.sizeOf5
  v5 := Tryz.zeroValue5
  infoByte := by kernel_rfl
  cellsByte := by kernel_rfl
  sizeByte := by kernel_rfl
  neB5 := by decide }
open Go.RowKit Go.Lib in
theorem Tryz.strings_Repeat (s : ByteArray) (c : Nat) (w : World) (hc : c ≤ 9223372036854775807) (hlen : s.size * c ≤ 140737488355328) :
    Calls Tryz.prog 126 #[.string s, .int .i64 c] w fun e w' => e = .returned (.string ⟨(Lib.repeatL s.data.toList c).toArray⟩) ∧ Below w.heap.size w w' := Any.strings_Repeat Tryz.lays105 Tryz.Builder_Extra_105 s c w hc hlen
def Tryz.lays197_ren : Go.Shelf.Ren := ⟨fun | 197 => 64 | 260 => 99 | n => n, fun | 9 => 9 | 21 => 21 | 3 => 3 | 4 => 4 | 5 => 5 | 105 => 99 | 119 => 163 | 0 => 0 | 46 => 164 | 139 => 167 | 138 => 166 | n => n, fun | 3 => 2 | 4 => 3 | n => n⟩
theorem Tryz.lays197 : Go.Proofs.Lays.n197 Tryz.prog Tryz.lays197_ren := {
  mixed := by kernel_rfl
  f197 := Tryz.func64.trans (congrArg some (by kernel_rfl))
  f260 := Tryz.func99.trans (congrArg some (by kernel_rfl))
  t0 := Tryz.underlying0
  a0 := Tryz.isAgg0
  z0 := Tryz.sizeOf0
  v0 := Tryz.zeroValue0
  t3 := Tryz.underlying3
  a3 := Tryz.isAgg3
  z3 := Tryz.sizeOf3
  v3 := Tryz.zeroValue3
  t4 := Tryz.underlying4
  a4 := Tryz.isAgg4
  z4 := Tryz.sizeOf4
  v4 := Tryz.zeroValue4
  t5 := Tryz.underlying5
  a5 := Tryz.isAgg5
  z5 := Tryz.sizeOf5
  v5 := Tryz.zeroValue5
  t9 := Tryz.underlying9
  a9 := Tryz.isAgg9
  z9 := Tryz.sizeOf9
  v9 := Tryz.zeroValue9
  t21 := Tryz.underlying21
  a21 := Tryz.isAgg21
  z21 := Tryz.sizeOf21
  v21 := Tryz.zeroValue21
  t46 := Tryz.underlying164
  a46 := Tryz.isAgg164
  z46 := Tryz.sizeOf164
  v46 := Tryz.zeroValue164
  t105 := Tryz.underlying99
  a105 := Tryz.isAgg99
  z105 := Tryz.sizeOf99
  v105 := Tryz.zeroValue99
  t119 := Tryz.underlying163
  a119 := Tryz.isAgg163
  z119 := Tryz.sizeOf163
  t138 := Tryz.underlying166
  a138 := Tryz.isAgg166
  z138 := Tryz.sizeOf166
  v138 := Tryz.zeroValue166
  t139 := Tryz.underlying167
  a139 := Tryz.isAgg167
  z139 := Tryz.sizeOf167
  v139 := Tryz.zeroValue167
  g3 := by kernel_rfl
  g4 := by kernel_rfl }
open Go.RowKit Go.Lib in
theorem Tryz.utf8_DecodeRuneInString (s : ByteArray) (w : World) (hT : Lib.Utf8Tabs 2 3 w) :
    Calls Tryz.prog 64 #[.string s] w fun e w' => e = .returned (.tuple #[.int .i32 (Lib.decodeGo s).1, .int .i64 (Lib.decodeGo s).2]) ∧ Below w.heap.size w w' := Any.utf8_DecodeRuneInString Tryz.lays197 s w hT
def Tryz.lays7n32_ren : Go.Shelf.Ren := ⟨fun | 32 => 87 | 49 => 119 | n => n, fun | 30 => 51 | 21 => 21 | 3 => 3 | 0 => 0 | 5 => 5 | 4 => 4 | 33 => 99 | 66 => 163 | 25 => 164 | 69 => 167 | 68 => 166 | n => n, fun | 2 => 2 | 3 => 3 | n => n⟩
theorem Tryz.lays7n32 : Go.Proofs.Lays7.n32 Tryz.prog Tryz.lays7n32_ren := {
  mixed := by kernel_rfl
  f32 := Tryz.func87.trans (congrArg some (by kernel_rfl))
  f49 := Tryz.func119.trans (congrArg some (by kernel_rfl))
  t0 := Tryz.underlying0
  a0 := Tryz.isAgg0
  z0 := Tryz.sizeOf0
  v0 := Tryz.zeroValue0
  i0 := by kernel_rfl
  t3 := Tryz.underlying3
  a3 := Tryz.isAgg3
  z3 := Tryz.sizeOf3
  v3 := Tryz.zeroValue3
  i3 := by kernel_rfl
  t4 := Tryz.underlying4
  a4 := Tryz.isAgg4
  z4 := Tryz.sizeOf4
  v4 := Tryz.zeroValue4
  i4 := by kernel_rfl
  t5 := Tryz.underlying5
  a5 := Tryz.isAgg5
  z5 := Tryz.sizeOf5
  v5 := Tryz.zeroValue5
  i5 := by kernel_rfl
  t21 := Tryz.underlying21
  a21 := Tryz.isAgg21
  z21 := Tryz.sizeOf21
  v21 := Tryz.zeroValue21
  i21 := by kernel_rfl
  t25 := Tryz.underlying164
  a25 := Tryz.isAgg164
  z25 := Tryz.sizeOf164
  v25 := Tryz.zeroValue164
  i25 := by kernel_rfl
  t30 := Tryz.underlying51
  a30 := Tryz.isAgg51
  z30 := Tryz.sizeOf51
  v30 := Tryz.zeroValue51
  i30 := by kernel_rfl
  t33 := Tryz.underlying99
  a33 := Tryz.isAgg99
  z33 := Tryz.sizeOf99
  v33 := Tryz.zeroValue99
  i33 := by kernel_rfl
  t66 := Tryz.underlying163
  a66 := Tryz.isAgg163
  z66 := Tryz.sizeOf163
  t68 := Tryz.underlying166
  a68 := Tryz.isAgg166
  z68 := Tryz.sizeOf166
  v68 := Tryz.zeroValue166
  i68 := by kernel_rfl
  t69 := Tryz.underlying167
  a69 := Tryz.isAgg167
  z69 := Tryz.sizeOf167
  v69 := Tryz.zeroValue167
  i69 := by kernel_rfl
  g2 := by kernel_rfl
  g3 := by kernel_rfl }
open Go.RowKit in
theorem Tryz.utf8_DecodeRune (s : ByteArray) (b off cap : Nat) (w : World) (hT : Lib.Utf8Tabs 2 3 w) (hp : ∀ j, j < s.size → w.cell? ⟨b, off + j, none⟩ = some (.int .u8 (s.get! j).toNat)) :
    Calls Tryz.prog 87 #[.slice (some ⟨b, off, none⟩) s.size cap] w fun e w' => e = .returned (.tuple #[.int .i32 (Lib.decodeGo s).1, .int .i64 (Lib.decodeGo s).2]) ∧ Below w.heap.size w w' := Any7.utf8_DecodeRune Tryz.lays7n32 s b off cap w hT hp
def Tryz.lays7n27_ren : Go.Shelf.Ren := ⟨fun | 27 => 169 | 28 => 177 | 29 => 178 | n => n, fun | 25 => 164 | 3 => 3 | 27 => 116 | 22 => 183 | 4 => 4 | 53 => 211 | 0 => 0 | 5 => 5 | 54 => 212 | n => n, fun | 0 => 8 | 1 => 9 | n => n⟩
theorem Tryz.lays7n27 : Go.Proofs.Lays7.n27 Tryz.prog Tryz.lays7n27_ren := {
  mixed := by kernel_rfl
  f27 := Tryz.func169.trans (congrArg some (by kernel_rfl))
  f28 := Tryz.func177.trans (congrArg some (by kernel_rfl))
  f29 := Tryz.func178.trans (congrArg some (by kernel_rfl))
  t0 := Tryz.underlying0
  a0 := Tryz.isAgg0
  z0 := Tryz.sizeOf0
  v0 := Tryz.zeroValue0
  i0 := by kernel_rfl
  t3 := Tryz.underlying3
  a3 := Tryz.isAgg3
  z3 := Tryz.sizeOf3
  v3 := Tryz.zeroValue3
  i3 := by kernel_rfl
  t4 := Tryz.underlying4
  a4 := Tryz.isAgg4
  z4 := Tryz.sizeOf4
  v4 := Tryz.zeroValue4
  i4 := by kernel_rfl
  t5 := Tryz.underlying5
  a5 := Tryz.isAgg5
  z5 := Tryz.sizeOf5
  v5 := Tryz.zeroValue5
  i5 := by kernel_rfl
  t22 := Tryz.underlying183
  a22 := Tryz.isAgg183
  z22 := Tryz.sizeOf183
  v22 := Tryz.zeroValue183
  i22 := by kernel_rfl
  t25 := Tryz.underlying164
  a25 := Tryz.isAgg164
  z25 := Tryz.sizeOf164
  v25 := Tryz.zeroValue164
  i25 := by kernel_rfl
  t27 := Tryz.underlying116
  a27 := Tryz.isAgg116
  z27 := Tryz.sizeOf116
  v27 := Tryz.zeroValue116
  i27 := by kernel_rfl
  t53 := Tryz.underlying211
  a53 := Tryz.isAgg211
  z53 := Tryz.sizeOf211
  v53 := Tryz.zeroValue211
  i53 := by kernel_rfl
  t54 := Tryz.underlying212
  a54 := Tryz.isAgg212
  z54 := Tryz.sizeOf212
  g0 := by kernel_rfl
  g1 := by kernel_rfl }
open Go.RowKit in
theorem Tryz.bits_TrailingZeros (x : Nat) (hx : x < 18446744073709551616) (w : World) (hT : x ≠ 0 → ∀ j, j < Lib.deBruijn64tab.length → w.cell? ⟨9, j, none⟩ = some (.int .u8 (Lib.deBruijn64tab.getD j 0))) :
    Calls Tryz.prog 169 #[.int .u64 x] w fun e w' => e = .returned (.int .i64 (Lib.ctz 64 x)) ∧ w' = w := Any7.bits_TrailingZeros Tryz.lays7n27 x hx w hT
end Go.Proofs
end
section
set_option linter.unusedVariables false
namespace Go.Proofs.YtejefchehdifhaaGreatDoor.Ev
open Go Go.RowKit
theorem tabAt_ints {w : World} {g : Nat} {k : IntKind} {zs : List Int} (h : TabAt w (fun _ => True) g (zs.map fun z => FV.int k z)) : ∃ t z, w.heap[g]? = some (.cells (zs.map fun z => Value.int k z).toArray t z) := by
  obtain ⟨c, t, z, h1, h2, h3⟩ := h
  refine ⟨t, z, ?_⟩
  rw [h1]
  congr 2
  apply Array.ext
  · simpa using h2
  · intro i hi hi'
    have hi2 : i < zs.length := by simpa using hi'
    obtain ⟨v, hv, hr⟩ := h3 i (.int k zs[i]) (by simp [hi2])
    cases hr
    rw [Array.getElem?_eq_getElem hi] at hv
    simpa using hv
theorem tab_pow10 {w : World} (h : Glob w) : Lib.TabIs Tryz.prog w "internal/strconv.uint64pow10" .u64 Lib.pow10Tab := by
  have hg : Tryz.prog.globalNamed "internal/strconv.uint64pow10" = some 7 := by kernel_rfl
  have hm : (7, (List.range 20).map fun i => FV.int .u64 ((10 ^ i : Nat) : Int)) ∈ tabs := by simp [tabs]
  have h1 := h _ hm
  rw [show ((List.range 20).map fun i => FV.int .u64 ((10 ^ i : Nat) : Int)) = (Lib.pow10Tab.map fun z => FV.int .u64 z) by simp [Lib.pow10Tab]] at h1
  obtain ⟨t, z, h2⟩ := tabAt_ints h1
  unfold Lib.TabIs World.var?
  rw [hg]
  simp only [Option.bind_some, h2]
def itoaS (n : Int) : ByteArray := ⟨(Lib.itoa n).toArray⟩
theorem Itoa_fn (n : Int) (h0 : -9223372036854775808 ≤ n) (h1 : n ≤ 9223372036854775807) : Fn Tryz.prog 125 [.one (.fz (.int .i64 n))] [] (.one (.fz (.str (itoaS n)))) [] :=
  Fn.of_below [.int .i64 n] rfl rfl fun w hg => by
    refine (Tryz.strconv_Itoa n h0 h1 w (tab_pow10 hg)).mono ?_
    rintro e w' ⟨rfl, k, os, rfl⟩
    exact ⟨rfl, Lib.below_grow _ _ (Nat.le_refl _) _ _⟩
def repeatS (s : ByteArray) (c : Int) : ByteArray := ⟨(Lib.repeatL s.data.toList c.toNat).toArray⟩
theorem Repeat_fn (s : ByteArray) (c : Int) (h0 : 0 ≤ c) (hc : c ≤ 9223372036854775807) (hlen : s.size * c.toNat ≤ 140737488355328) : Fn Tryz.prog 126 [.one (.fz (.str s)), .one (.fz (.int .i64 c))] [] (.one (.fz (.str (repeatS s c)))) [] :=
  Fn.of_below [.str s, .int .i64 c] rfl rfl fun w hg => by
    obtain ⟨m, rfl⟩ := Int.eq_ofNat_of_zero_le h0
    refine (Tryz.strings_Repeat s m w (by omega) (by simpa using hlen)).mono ?_
    rintro e w' ⟨rfl, hb⟩
    exact ⟨rfl, hb⟩
end Go.Proofs.YtejefchehdifhaaGreatDoor.Ev
end
section
set_option linter.unusedVariables false
set_option linter.unusedSimpArgs false
namespace Go.Proofs.YtejefchehdifhaaGreatDoor.Ev
open Go
def tdig (n : Nat) : List Int := (digs 10 n).reverse.map (48 + ·)
def numT (s : Bool) (l : List Int) : List Int := if sndB s l = true then (if l.length = 0 then [48] else (if s = true then [45] else []) ++ tdig (val 1000000000 l).toNat) else []
theorem tdig_bytes (n : Nat) : Bytes (tdig n) := by
  intro x hx
  simp only [tdig, List.mem_map, List.mem_reverse] at hx
  obtain ⟨y, hy, rfl⟩ := hx
  have := digsT_lim n y hy
  omega
theorem tdig_len (n : Nat) : (tdig n).length = (digs 10 n).length := by simp [tdig]
theorem numT_bytes (s : Bool) (l : List Int) : Bytes (numT s l) := by
  unfold numT
  split
  · split
    · intro x hx; simp at hx; omega
    · refine Bytes.append ?_ (tdig_bytes _)
      split
      · intro x hx; simp at hx; omega
      · exact Bytes.nil
  · exact Bytes.nil
theorem decDigits_tdig (u : Nat) (hu : 0 < u) : Lib.decDigits u = (tdig u).map fun n => UInt8.ofNat n.toNat := by
  induction u using Nat.strongRecOn with
  | _ u ih =>
    unfold tdig
    rw [Lib.decDigits, digs_pos (by omega) hu]
    split
    · rename_i h
      rw [Nat.div_eq_of_lt h, digs_zero, Nat.mod_eq_of_lt h]
      simp only [List.reverse_cons, List.reverse_nil, List.nil_append, List.map_cons, List.map_nil]
      congr 2
    · rename_i h
      rw [ih (u / 10) (by omega) (by omega)]
      simp only [List.reverse_cons, List.map_append, List.map_cons, List.map_nil]
      unfold tdig
      congr 3
theorem itoa_of (n : Nat) (hn : 0 < n) : itoaS n = bytesOf (tdig n) := by
  unfold itoaS bytesOf Lib.itoa
  rw [if_neg (by omega), Int.toNat_natCast, decDigits_tdig n hn]
theorem itoa_zero : itoaS 0 = bytesOf [48] := by decide +kernel
def nine (n : Nat) : List Int := digs 10 n ++ List.replicate (9 - (digs 10 n).length) 0
theorem nine_len {n : Nat} (h : n < 1000000000) : (nine n).length = 9 := by
  have : (digs 10 n).length ≤ 9 := (digs_len (by omega) _ _).2 (by omega)
  simp [nine]; omega
theorem nine_join {x v : Nat} (hx : x < 1000000000) (hv : 0 < v) : digs 10 (x + 1000000000 * v) = nine x ++ digs 10 v := by
  have hl := nine_len hx
  have hL : Lim 10 (nine x ++ digs 10 v) := ((digsT_lim x).append (Lim.replicate (by omega) _)).append (digsT_lim v)
  have hN : Norm (nine x ++ digs 10 v) := by
    intro h
    have hd : digs 10 v ≠ [] := fun e => by have := (digs_nil (B := 10) (by omega) v).1 e; omega
    rw [List.getLast_append_of_ne_nil _ hd]
    exact digsT_norm v hd
  have hV : val 10 (nine x ++ digs 10 v) = ((x + 1000000000 * v : Nat) : Int) := by
    rw [val_append, hl, digsT_val]
    have : val 10 (nine x) = x := by unfold nine; rw [val_append, val_replicate, digsT_val]; omega
    rw [this]
    have : (10 : Int) ^ 9 = 1000000000 := by decide
    rw [this]
    rw [Int.natCast_add, Int.natCast_mul]
    rfl
  exact (digs_eq' (B := 10) (by omega) hL hN hV).symm
theorem tdig_join {x v : Nat} (hx : x < 1000000000) (hv : 0 < v) : tdig (x + 1000000000 * v) = tdig v ++ (List.replicate (9 - (digs 10 x).length) 48 ++ tdig x) := by
  unfold tdig
  rw [nine_join hx hv]
  unfold nine
  simp only [List.reverse_append, List.reverse_replicate, List.map_append, List.map_replicate, Int.add_zero]
theorem repeat_zero (n : Nat) : repeatS (bytesOf [48]) n = bytesOf (List.replicate n 48) := by
  have : ∀ n : Nat, Lib.repeatL [48] n = (List.replicate n (48 : Int)).map fun n => UInt8.ofNat n.toNat := by
    intro n
    induction n with
    | zero => rfl
    | succ n ih => rw [List.replicate_succ, List.map_cons, Lib.repeatL, ih]; rfl
  unfold repeatS bytesOf
  rw [Int.toNat_natCast]
  exact congrArg ByteArray.mk (congrArg List.toArray (this n))
theorem text_loop (s : Bool) (l : List Int) (hl : l.length ≤ 64) (hL : Lim 1000000000 l) (hn : Norm l) (g : List Int) (hg : g.length ≤ 1) (hgb : Bytes g) (R : TV → List Ob → Prop) (hR : R (.one (.fz (.str (bytesOf (g ++ tdig (val 1000000000 l).toNat))))) []) :
    ∀ (k : Nat), k ≤ l.length → g ++ tdig (val 1000000000 (l.drop k)).toNat ≠ [] → num_Text_L0 R s (ints .u32 l) ((k : Int) - 1) (ints .u8 (g ++ tdig (val 1000000000 (l.drop k)).toNat)) := by
  have hlen : ∀ k, k ≤ l.length → (g ++ tdig (val 1000000000 (l.drop k)).toNat).length ≤ 100000 := by
    intro k hk
    have h1 : (digs 10 (val 1000000000 (l.drop k)).toNat).length ≤ 576 := by
      rw [digs_len (by omega)]
      have h0 := val_nonneg (B := 1000000000) (by omega) (hL.drop k)
      have h1 := val_lt (B := 1000000000) (by omega) (hL.drop k)
      have h2 : (1000000000 : Int) ^ (l.drop k).length ≤ 1000000000 ^ 64 := pow_mono (by omega) (by simp; omega)
      have h3 : (10 : Int) ^ 576 = 1000000000 ^ 64 := pow9 64
      have h4 : (((10 : Nat) ^ 576 : Nat) : Int) = 10 ^ 576 := cast_ten_pow 576
      omega
    simp [tdig_len]; omega
  intro k
  induction k with
  | zero =>
    intro _ hne
    rw [List.drop_zero] at hne ⊢
    have h0 := hlen 0 (by omega)
    rw [List.drop_zero] at h0
    refine num_Text_l0 ?_
    unfold num_Text_R0
    refine ⟨fun h => by simp at h, fun _ => ⟨_, _, stringU_ok _ hne (hgb.append (tdig_bytes _)) (by omega), hR⟩⟩
  | succ k ih =>
    intro hk hne
    have hx := hL.rd (by omega) k
    have va := val_drop 1000000000 l k (by omega)
    have hv0 := val_nonneg (B := 1000000000) (by omega) (hL.drop (k + 1))
    obtain ⟨x, hX⟩ : ∃ x : Nat, rd l k = x := ⟨(rd l k).toNat, by omega⟩
    obtain ⟨v, hV⟩ : ∃ v : Nat, val 1000000000 (l.drop (k + 1)) = v := ⟨(val 1000000000 (l.drop (k + 1))).toNat, by omega⟩
    rw [hX] at hx va
    rw [hV] at va hne ⊢
    have hl2 := hlen (k + 1) hk
    rw [hV] at hl2
    have hval : (val 1000000000 (l.drop k)).toNat = x + 1000000000 * v := by rw [va]; omega
    rw [hval] at ih
    rw [Int.toNat_natCast] at hne hl2 ⊢
    have hnx : (x + 1000000000 * v ≠ 0) := by
      intro e
      have hd : Norm (l.drop k) := by
        intro h0
        rw [List.getLast_drop]
        exact hn _
      have := (val_zero_iff (B := 1000000000) (by omega) (hL.drop k) hd).1 (by rw [va]; omega)
      have hlen0 : (l.drop k).length = 0 := by rw [this]; rfl
      simp at hlen0
      omega
    have hne2 : g ++ tdig (x + 1000000000 * v) ≠ [] := by
      intro e
      have e2 : tdig (x + 1000000000 * v) = [] := (List.append_eq_nil_iff.1 e).2
      have : (digs 10 (x + 1000000000 * v)).length = 0 := by rw [← tdig_len, e2]; rfl
      exact hnx ((digs_nil (B := 10) (by omega) _).1 (List.length_eq_zero_iff.1 this))
    have ih2 := ih (by omega) hne2
    refine num_Text_l0 ?_
    have e1 : (((k + 1 : Nat) : Int) - 1) = (k : Int) := by omega
    have e2 : IntKind.wrap .i64 ((k : Int) - 1) = (k : Int) - 1 := w64 (by omega) (by omega)
    have e3 : IntKind.wrap .i64 ((l.length : Int) - 1) = (l.length : Int) - 1 := w64 (by omega) (by omega)
    have e4 : IntKind.wrap .i64 ((x : Nat) : Int) = (x : Int) := w64 (by omega) (by omega)
    unfold num_Text_R0
    rw [e1, ints_len, e2, e3]
    refine ⟨fun _ => ⟨by omega, ?_⟩, fun h => by simp at h⟩
    rw [Int.toNat_natCast, ex_rd, hX, e4]
    refine ⟨by omega, _, Itoa_fn x (by omega) (by omega), ?_⟩
    rw [dec_t, dec_f]
    have hd9 : (digs 10 x).length ≤ 9 := (digs_len (by omega) _ _).2 (by omega)
    refine ⟨fun hlt => ?_, fun hge => ?_⟩
    ·
      have hv : 0 < v := by
        rcases Nat.eq_zero_or_pos v with h | h
        · subst h
          have hd : Norm (l.drop (k + 1)) := by
            intro h0
            rw [List.getLast_drop]
            exact hn _
          have := (val_zero_iff (B := 1000000000) (by omega) (hL.drop (k + 1)) hd).1 (by rw [hV]; rfl)
          have hlen0 : (l.drop (k + 1)).length = 0 := by rw [this]; rfl
          simp at hlen0
          omega
        · exact h
      have hxt : ∃ (m : Nat) (t : List Int), itoaS x = bytesOf t ∧ Bytes t ∧ t.length ≤ 9 ∧ m = 9 - t.length ∧ tdig (x + 1000000000 * v) = tdig v ++ List.replicate m 48 ++ t := by
        rcases Nat.eq_zero_or_pos x with h | h
        · subst h
          refine ⟨8, [48], itoa_zero, by intro y hy; simp at hy; omega, by simp, rfl, ?_⟩
          rw [tdig_join (by omega) hv, digs_zero]
          unfold tdig
          rw [digs_zero]
          simp [List.replicate_succ]
        · refine ⟨9 - (digs 10 x).length, tdig x, itoa_of x h, tdig_bytes x, by rw [tdig_len]; exact hd9, by rw [tdig_len], ?_⟩
          rw [tdig_join (by omega) hv, List.append_assoc]
      obtain ⟨m, t, t1, t2, t3, t4, t5⟩ := hxt
      have t6 : (itoaS x).size = t.length := by rw [t1, size_of]
      have e5 : IntKind.wrap .i64 (9 - (((itoaS x).size : Nat) : Int)) = (m : Int) := by rw [t6, w64 (by omega) (by omega)]; omega
      have e6 : (ByteArray.mk #[48]) = bytesOf [48] := rfl
      have hrep : Bytes (List.replicate m (48 : Int)) := by intro y hy; have := List.eq_of_mem_replicate hy; omega
      have w1 := writeStringU_ok (repeatS (bytesOf [48]) m) (g ++ tdig v) (by rw [repeat_zero, bs_of hrep]; simp; omega) (by omega)
      rw [repeat_zero, bs_of hrep] at w1
      have w2 := writeStringU_ok (itoaS x) (g ++ tdig v ++ List.replicate m 48) (by rw [t1, bs_of t2]; omega) (by simp only [List.length_append, List.length_replicate] at hl2 ⊢; omega)
      rw [t1, bs_of t2] at w2
      rw [e5, e6, t1]
      refine ⟨_, Repeat_fn (bytesOf [48]) m (by omega) (by omega) (by rw [size_of]; simp; omega), _, _, by rw [repeat_zero]; exact w1, _, _, w2, ?_⟩
      have e7 : g ++ tdig v ++ List.replicate m 48 ++ t = g ++ tdig (x + 1000000000 * v) := by rw [t5]; simp [List.append_assoc]
      rw [e7]
      exact ih2
    ·
      have hk2 : k + 1 = l.length := by omega
      have hv : v = 0 := by
        have : l.drop (k + 1) = [] := List.drop_of_length_le (by omega)
        rw [this] at hV
        simp [val] at hV
        omega
      subst hv
      have hx0 : 0 < x := by omega
      rw [Nat.mul_zero, Nat.add_zero] at ih2
      have t0 : tdig 0 = [] := by unfold tdig; rw [digs_zero]; rfl
      rw [t0, List.append_nil] at hne hl2 ⊢
      have w2 := writeStringU_ok (itoaS x) g (by rw [itoa_of x hx0, bs_of (tdig_bytes x), tdig_len]; omega) (by omega)
      rw [itoa_of x hx0, bs_of (tdig_bytes x)] at w2
      rw [itoa_of x hx0]
      exact ⟨_, _, w2, ih2⟩
theorem text_ok (s : Bool) (l : List Int) (hu : U32 l) (hl : l.length ≤ 100000) : Fn Tryz.prog 94 [fzN s l] [] (.one (.fz (.str (bytesOf (numT s l))))) [] := by
  refine num_Text_fn _ _ ?_
  unfold num_Text_H
  refine ⟨_, sound_ok s l (by omega), ?_⟩
  rw [not_t, not_f]
  unfold numT
  refine ⟨fun h => ?_, fun h => ?_⟩
  · rw [h]; exact ⟨rfl, rfl⟩
  · rw [if_pos h]
    have sn := (sndB_iff hu).1 h
    have n1 := sn.len
    rw [beq_t, beq_f, ints_len]
    refine ⟨fun h0 => ?_, fun h0 => ?_⟩
    · rw [if_pos (by omega)]; exact ⟨rfl, rfl⟩
    · have hpos : 0 < l.length := by omega
      rw [if_neg (by omega)]
      have e1 : IntKind.wrap .i64 ((l.length : Int) - 1) = ((l.length : Nat) : Int) - 1 := w64 (by omega) (by omega)
      refine ⟨fun hs => ⟨_, writeByteF_ok 45, ?_⟩, fun hs => ?_⟩
      · rw [e1]
        have g := text_loop s l n1 sn.lim sn.norm [45] (by simp) (by intro x hx; simp at hx; omega) (fun r' h' => r' = .one (.fz (.str (bytesOf ([45] ++ tdig (val 1000000000 l).toNat)))) ∧ h' = []) ⟨rfl, rfl⟩ l.length (Nat.le_refl _) (by simp)
        have t0 : tdig (val 1000000000 (l.drop l.length)).toNat = [] := by
          rw [List.drop_length]; unfold tdig; simp [val, digs_zero]
        rw [t0, List.append_nil] at g
        rw [if_pos hs]
        exact g
      ·
        have hk : l.length - 1 < l.length := by omega
        have hx := sn.lim.rd (by omega) (l.length - 1)
        have hx0 := norm_rd sn.norm hpos
        have va := val_drop 1000000000 l (l.length - 1) hk
        obtain ⟨x, hX⟩ : ∃ x : Nat, rd l (l.length - 1) = x := ⟨(rd l (l.length - 1)).toNat, by omega⟩
        rw [hX] at hx hx0 va
        have hdn : l.drop (l.length - 1 + 1) = [] := List.drop_of_length_le (by omega)
        rw [hdn] at va
        have hval : (val 1000000000 (l.drop (l.length - 1))).toNat = x := by rw [va]; simp [val]
        have hne : [] ++ tdig (val 1000000000 (l.drop (l.length - 1))).toNat ≠ [] := by
          rw [hval, List.nil_append]
          intro e
          have : (digs 10 x).length = 0 := by rw [← tdig_len, e]; rfl
          have := (digs_nil (B := 10) (by omega) _).1 (List.length_eq_zero_iff.1 this)
          omega
        have g := text_loop s l n1 sn.lim sn.norm [] (by simp) Bytes.nil (fun r' h' => r' = .one (.fz (.str (bytesOf ([] ++ tdig (val 1000000000 l).toNat)))) ∧ h' = []) ⟨rfl, rfl⟩ (l.length - 1) (by omega) hne
        rw [hval, List.nil_append] at g
        have hd9 : (digs 10 x).length ≤ 9 := (digs_len (by omega) _ _).2 (by omega)
        have w2 := writeStringF_ok (itoaS x) (by rw [itoa_of x (by omega), bs_of (tdig_bytes x), tdig_len]; omega)
        rw [itoa_of x (by omega), bs_of (tdig_bytes x)] at w2
        have e2 : IntKind.wrap .i64 ((l.length : Int) - 1) = ((l.length - 1 : Nat) : Int) := by rw [e1]; omega
        have e3 : IntKind.wrap .i64 (((l.length - 1 : Nat) : Int) - 1) = ((l.length - 1 : Nat) : Int) - 1 := w64 (by omega) (by omega)
        have e4 : IntKind.wrap .i64 ((x : Nat) : Int) = (x : Int) := w64 (by omega) (by omega)
        rw [if_neg (by simp [hs])]
        refine num_Text_l1 ?_
        unfold num_Text_R1
        rw [ints_len, e2, e3]
        refine ⟨fun _ => ⟨by omega, ?_⟩, fun h => by simp at h⟩
        rw [Int.toNat_natCast, ex_rd, hX, e4]
        refine ⟨by omega, _, Itoa_fn x (by omega) (by omega), fun h => by simp at h, fun _ => ?_⟩
        rw [itoa_of x (by omega)]
        exact ⟨_, _, w2, g⟩
end Go.Proofs.YtejefchehdifhaaGreatDoor.Ev
end
section
set_option linter.unusedVariables false
set_option linter.unusedSimpArgs false
namespace Go.Proofs.YtejefchehdifhaaGreatDoor.Ev
open Go Go.RowKit
def errV (b : Bool) (v : Value) : Prop := if b = true then ∃ t u, v = .iface t u else v = .nilIface
theorem Fn.of_below_ie {P : Program} {f : FuncId} (xs : List FV) {vs : List Value} {n : Int} {b : Bool} (hx : xs.mapM bareV = some vs)
    (hc : ∀ w, Glob w → Calls P f vs.toArray w fun e w' => (∃ v, e = .returned (.tuple #[.int .i64 n, v]) ∧ errV b v) ∧ Below w.heap.size w w') : Fn P f (xs.map fun x => .one (.fz x)) [] (.tup [(false, [.fz (.int .i64 n)]), (false, [.fz (.ifc b)])]) [] := by
  intro ext w locs vals H hsz hrep
  have e : vals = vs.toArray := by
    have := args_bare xs vs vals.toList hx (by simpa using hsz) (fun i x h => by obtain ⟨v, h1, h2⟩ := hrep i x h; exact ⟨v, by simpa using h1, h2⟩)
    rw [← this]
  subst e
  refine (hc w H.glob).mono ?_
  rintro e w' ⟨⟨v, rfl, hv⟩, hb⟩
  refine ⟨.tuple #[.int .i64 n, v], locs, rfl, H.below hb, #[.int .i64 n, v], rfl, rfl, fun i b' cs hi => ?_⟩
  match i with
  | 0 =>
    cases hi
    refine ⟨.int .i64 n, rfl, [.int .i64 n], rfl, rfl, fun _ => rfl, fun j x hj => ?_⟩
    cases j with
    | zero => cases hj; exact ⟨_, rfl, .int _ _⟩
    | succ j => simp at hj
  | 1 =>
    cases hi
    refine ⟨v, rfl, [v], rfl, rfl, fun _ => rfl, fun j x hj => ?_⟩
    cases j with
    | zero =>
      cases hj
      refine ⟨v, rfl, ?_⟩
      cases b
      · have : v = .nilIface := hv
        subst this
        exact .ifcN
      · obtain ⟨t, u, rfl⟩ := hv
        exact .ifcS _ _
    | succ j => simp at hj
  | i + 2 => simp at hi
theorem tab_ifc {w : World} {g : Nat} (h : TabAt w (fun _ => True) g [.ifc true]) : ∃ t u, w.cell? ⟨g, 0, none⟩ = some (.iface t u) := by
  obtain ⟨c, t, z, h1, h2, h3⟩ := h
  obtain ⟨v, hv, hr⟩ := h3 0 _ rfl
  cases hr
  rename_i t' v'
  exact ⟨t', v', by simp [World.cell?, h1, hv]⟩
def atoiV (s : ByteArray) : Int := match Lib.atoiAll s.data.toList with
  | .ok v => v
  | .range => Lib.atoiSat s.data.toList
  | _ => 0
def atoiE (s : ByteArray) : Bool := match Lib.atoiAll s.data.toList with
  | .ok _ => false
  | _ => true
theorem Atoi_fn (s : ByteArray) (hs : s.size ≤ 281474976710656) : Fn Tryz.prog 85 [.one (.fz (.str s))] [] (.tup [(false, [.fz (.int .i64 (atoiV s))]), (false, [.fz (.ifc (atoiE s))])]) [] :=
  Fn.of_below_ie [.str s] rfl fun w hg => by
    unfold atoiV atoiE
    cases h : Lib.atoiAll s.data.toList
    case ok v =>
      refine (Tryz.strconv_Atoi_ok s (by omega) v h w).mono ?_
      rintro e w' ⟨rfl, hw⟩
      refine ⟨⟨_, rfl, rfl⟩, ?_⟩
      rcases hw with rfl | ⟨t, rfl⟩
      · exact Below.refl _ _
      · exact Lib.bytesWorld_below _ _ _
    case range =>
      have h1 := hg (5, [.ifc true]) (by simp [tabs])
      obtain ⟨t, u, h2⟩ := tab_ifc h1
      refine (Tryz.strconv_Atoi_range s hs h _ w h2 (.inr ⟨_, _, rfl⟩)).mono ?_
      rintro e w' ⟨N, rfl, _, _, hb⟩
      exact ⟨⟨_, rfl, _, _, rfl⟩, hb⟩
    all_goals
      have h1 := hg (4, [.ifc true]) (by simp [tabs])
      obtain ⟨t, u, h2⟩ := tab_ifc h1
      refine (Tryz.strconv_Atoi_syntax s hs h _ w h2 (.inr ⟨_, _, rfl⟩)).mono ?_
      rintro e w' ⟨N, rfl, _, _, hb⟩
      exact ⟨⟨_, rfl, _, _, rfl⟩, hb⟩
theorem TrimPrefix_fn (s p : ByteArray) : Fn Tryz.prog 82 [.one (.fz (.str s)), .one (.fz (.str p))] [] (.one (.fz (.str ⟨(Lib.trimPrefix s.data.toList p.data.toList).toArray⟩))) [] :=
  Fn.of_below [.str s, .str p] rfl rfl fun w hg => (Tryz.strings_TrimPrefix s p w).mono fun e w' ⟨h1, h2⟩ => ⟨h1, h2 ▸ Below.refl _ _⟩
theorem TrimLeft_fn (s : ByteArray) (c : UInt8) (hc : c.toNat < 128) : Fn Tryz.prog 84 [.one (.fz (.str s)), .one (.fz (.str ⟨#[c]⟩))] [] (.one (.fz (.str ⟨(Lib.trimLeftB s.data.toList c).toArray⟩))) [] :=
  Fn.of_below [.str s, .str ⟨#[c]⟩] rfl rfl fun w hg => (Tryz.strings_TrimLeft_one s c hc w).mono fun e w' ⟨h1, h2⟩ => ⟨h1, h2 ▸ Below.refl _ _⟩
theorem Trim_fn (s cs : ByteArray) (hs : s.size ≤ 9223372036854775807) (hcs : cs.size < 4294967281) (ha : cs.data.toList.all (fun b => decide (b.toNat < 128)) = true) :
    Fn Tryz.prog 83 [.one (.fz (.str s)), .one (.fz (.str cs))] [] (.one (.fz (.str ⟨(Lib.trimS s.data.toList cs.data.toList).toArray⟩))) [] :=
  Fn.of_below [.str s, .str cs] rfl rfl fun w hg => Any.strings_Trim_laid Tryz.lays160 (by kernel_rfl) s cs w hs hcs (ascii_of_all ha)
end Go.Proofs.YtejefchehdifhaaGreatDoor.Ev
end
section
set_option linter.unusedVariables false
set_option maxRecDepth 100000
namespace Go.Proofs.YtejefchehdifhaaGreatDoor.Ev
open Go
def num_Parse_lv : List Nat → Keep := lvOf [([0, 1, 0, 1, 1, 1, 1, 1, 1, 1, 1], ⟨244, 0, [], false, false⟩)]
def num_Parse_S0 (s4 : ByteArray) (minus : Bool) (end_ : Int) (o : List (List FV)) : St := (St.mk [TV.und, TV.und, (TV.one (AV.ptr 0 0 0 0)), TV.und, (TV.one (AV.fz (FV.str s4))), (TV.one (AV.fz (FV.bool minus))), (TV.one (AV.ofl 1 1)), (TV.one (AV.fz (FV.int .i64 end_))), TV.und, TV.und, TV.und, TV.und, TV.und, TV.und, TV.und, TV.und, TV.und, TV.und, TV.und, TV.und, TV.und, TV.und, TV.und, TV.und, TV.und, TV.und, TV.und, TV.und, TV.und, TV.und, TV.und, TV.und, TV.und, TV.und, TV.und, TV.und, TV.und, TV.und, TV.und, TV.und, TV.und, TV.und, TV.und, TV.und, TV.und, TV.und, TV.und, TV.und, TV.und, TV.und, TV.und, TV.und, TV.und, TV.und, TV.und, TV.und, TV.und, TV.und, TV.und, TV.und, TV.und, TV.und, TV.und, TV.und, TV.und] [(Ob.g 36 [(AV.fz (FV.bool false)), (AV.ofl 1 2)]), (Ob.f 0 1 o), (Ob.f 0 1 ([] : List (List FV)))])
def num_Parse_L0 (R : TV → List Ob → Prop) (s4 : ByteArray) (minus : Bool) (end_ : Int) (o : List (List FV)) : Prop := LoopAt Tryz.prog (modeOf [] []) num_Parse_lv Tryz.f47 none R [1, 1, 1, 1, 1, 1, 1, 1, 0, 1, 0] (num_Parse_S0 s4 minus end_ o)
def num_Parse_R0 (R : TV → List Ob → Prop) (s4 : ByteArray) (minus : Bool) (end_ : Int) (o : List (List FV)) : Prop :=
  ((((decide ((0 : Int) < end_)) = true) → ((((0 : Int) ≤ (if ((0 : Int) > (IntKind.wrap .i64 (end_ - 9))) then 0 else (IntKind.wrap .i64 (end_ - 9)))) ∧ (((if ((0 : Int) > (IntKind.wrap .i64 (end_ - 9))) then 0 else (IntKind.wrap .i64 (end_ - 9))) ≤ end_) ∧ (end_ ≤ (((ByteArray.size s4) : Nat) : Int)))) ∧ (∃ n6 : Int, (∃ b6 : Bool, ((Fn Tryz.prog 85 [(TV.one (AV.fz (FV.str (ByteArray.extract s4 (Int.toNat (if ((0 : Int) > (IntKind.wrap .i64 (end_ - 9))) then 0 else (IntKind.wrap .i64 (end_ - 9)))) (Int.toNat end_)))))] [] (TV.tup [(false, [(AV.fz (FV.int .i64 n6))]), (false, [(AV.fz (FV.ifc b6))])]) []) ∧ (((((List.length o) + (List.length [[(FV.int .u32 (IntKind.wrap .u32 n6))]])) * 4) ≤ 220000000000000) ∧ (num_Parse_L0 R s4 minus (IntKind.wrap .i64 (end_ - 9)) (o ++ [[(FV.int .u32 (IntKind.wrap .u32 n6))]])))))))) ∧ (((decide ((0 : Int) < end_)) = false) → (∃ b7 : Bool, (∃ es3 : List (List FV), (∃ n7 : Int, ((Fn Tryz.prog 86 [(TV.one (AV.fz (FV.bool minus))), (TV.one (AV.fz (FV.sl 1 o)))] [] (TV.tup [(true, [(AV.fz (FV.bool b7)), (AV.fz (FV.sl 1 es3))]), (false, [(AV.fz (FV.int .i64 n7))])]) []) ∧ (R (TV.tup [(true, [(AV.fz (FV.bool b7)), (AV.fz (FV.sl 1 es3))]), (false, [(AV.fz (FV.bool (n7 == 0)))])]) [])))))))
theorem num_Parse_l0 {R : TV → List Ob → Prop} {s4 : ByteArray} {minus : Bool} {end_ : Int} {o : List (List FV)} (h : num_Parse_R0 R s4 minus end_ o) : num_Parse_L0 R s4 minus end_ o :=
  LoopAt.by_tr (by kernel_rfl) (by kernel_rfl) h
def num_Parse_H (R : TV → List Ob → Prop) (s : ByteArray) : Prop :=
  (∃ s7 : ByteArray, ((Fn Tryz.prog 82 [(TV.one (AV.fz (FV.str s))), (TV.one (AV.fz (FV.str (ByteArray.mk #[45]))))] [] (TV.one (AV.fz (FV.str s7))) []) ∧ ((((Bool.not (Bool.not ((ByteArray.toList s7) == (ByteArray.toList s)))) = true) → (∃ s8 : ByteArray, ((Fn Tryz.prog 82 [(TV.one (AV.fz (FV.str s))), (TV.one (AV.fz (FV.str (ByteArray.mk #[43]))))] [] (TV.one (AV.fz (FV.str s8))) []) ∧ (((((ByteArray.toList s8) == (ByteArray.toList (ByteArray.mk #[]))) = true) → (R (TV.tup [(true, [(AV.fz (FV.bool false)), (AV.fz (FV.sl 1 ([] : List (List FV))))]), (false, [(AV.fz (FV.bool false))])]) [])) ∧ ((((ByteArray.toList s8) == (ByteArray.toList (ByteArray.mk #[]))) = false) → (∃ s9 : ByteArray, ((Fn Tryz.prog 83 [(TV.one (AV.fz (FV.str s8))), (TV.one (AV.fz (FV.str (ByteArray.mk #[48, 49, 50, 51, 52, 53, 54, 55, 56, 57]))))] [] (TV.one (AV.fz (FV.str s9))) []) ∧ ((((Bool.not ((ByteArray.toList s9) == (ByteArray.toList (ByteArray.mk #[])))) = true) → (R (TV.tup [(true, [(AV.fz (FV.bool false)), (AV.fz (FV.sl 1 ([] : List (List FV))))]), (false, [(AV.fz (FV.bool false))])]) [])) ∧ (((Bool.not ((ByteArray.toList s9) == (ByteArray.toList (ByteArray.mk #[])))) = false) → (∃ s10 : ByteArray, ((Fn Tryz.prog 84 [(TV.one (AV.fz (FV.str s8))), (TV.one (AV.fz (FV.str (ByteArray.mk #[48]))))] [] (TV.one (AV.fz (FV.str s10))) []) ∧ ((((decide ((576 : Int) < (((ByteArray.size s10) : Nat) : Int))) = true) → (R (TV.tup [(true, [(AV.fz (FV.bool false)), (AV.fz (FV.sl 1 ([] : List (List FV))))]), (false, [(AV.fz (FV.bool false))])]) [])) ∧ (((decide ((576 : Int) < (((ByteArray.size s10) : Nat) : Int))) = false) → (num_Parse_L0 R s10 (Bool.not ((ByteArray.toList s7) == (ByteArray.toList s))) (((ByteArray.size s10) : Nat) : Int) ([] : List (List FV)))))))))))))))) ∧ (((Bool.not (Bool.not ((ByteArray.toList s7) == (ByteArray.toList s)))) = false) → (((((ByteArray.toList s7) == (ByteArray.toList (ByteArray.mk #[]))) = true) → (R (TV.tup [(true, [(AV.fz (FV.bool false)), (AV.fz (FV.sl 1 ([] : List (List FV))))]), (false, [(AV.fz (FV.bool false))])]) [])) ∧ ((((ByteArray.toList s7) == (ByteArray.toList (ByteArray.mk #[]))) = false) → (∃ s11 : ByteArray, ((Fn Tryz.prog 83 [(TV.one (AV.fz (FV.str s7))), (TV.one (AV.fz (FV.str (ByteArray.mk #[48, 49, 50, 51, 52, 53, 54, 55, 56, 57]))))] [] (TV.one (AV.fz (FV.str s11))) []) ∧ ((((Bool.not ((ByteArray.toList s11) == (ByteArray.toList (ByteArray.mk #[])))) = true) → (R (TV.tup [(true, [(AV.fz (FV.bool false)), (AV.fz (FV.sl 1 ([] : List (List FV))))]), (false, [(AV.fz (FV.bool false))])]) [])) ∧ (((Bool.not ((ByteArray.toList s11) == (ByteArray.toList (ByteArray.mk #[])))) = false) → (∃ s12 : ByteArray, ((Fn Tryz.prog 84 [(TV.one (AV.fz (FV.str s7))), (TV.one (AV.fz (FV.str (ByteArray.mk #[48]))))] [] (TV.one (AV.fz (FV.str s12))) []) ∧ ((((decide ((576 : Int) < (((ByteArray.size s12) : Nat) : Int))) = true) → (R (TV.tup [(true, [(AV.fz (FV.bool false)), (AV.fz (FV.sl 1 ([] : List (List FV))))]), (false, [(AV.fz (FV.bool false))])]) [])) ∧ (((decide ((576 : Int) < (((ByteArray.size s12) : Nat) : Int))) = false) → (num_Parse_L0 R s12 (Bool.not ((ByteArray.toList s7) == (ByteArray.toList s))) (((ByteArray.size s12) : Nat) : Int) ([] : List (List FV)))))))))))))))))
theorem num_Parse_fn (s : ByteArray) {r : TV} {h : List Ob} (H : num_Parse_H (fun r' h' => r' = r ∧ h' = h) s) : Fn Tryz.prog 47 [(TV.one (AV.fz (FV.str s)))] [] r h :=
  Fn.by_tr (M := (modeOf [] [])) (lv := num_Parse_lv) (own := none) (F := Tryz.f47) (by kernel_rfl) (by kernel_rfl) (by first | decide | simp) (fun _ _ h => h) (by kernel_rfl) H
end Go.Proofs.YtejefchehdifhaaGreatDoor.Ev
end
section
set_option linter.unusedVariables false
set_option linter.unusedSimpArgs false
namespace Go.Proofs.YtejefchehdifhaaGreatDoor.Ev
open Go
def bv (acc : Int) (ds : List Int) : Int := ds.foldl (fun a d => a * 10 + d) acc
def ub (ds : List Int) : List UInt8 := ds.map fun d => UInt8.ofNat (48 + d).toNat
theorem bv_snoc (acc : Int) (ds : List Int) (d : Int) : bv acc (ds ++ [d]) = bv acc ds * 10 + d := by simp [bv]
theorem bv_val : ∀ l : List Int, bv 0 l.reverse = val 10 l
  | [] => rfl
  | d :: l => by rw [List.reverse_cons, bv_snoc, bv_val l]; show _ = d + 10 * val 10 l; omega
theorem bv_ge : ∀ (ds : List Int) (acc : Int), 0 ≤ acc → Lim 10 ds → acc ≤ bv acc ds
  | [], acc, _, _ => Int.le_refl _
  | d :: ds, acc, h0, h => by
    have hd := h d List.mem_cons_self
    have := bv_ge ds (acc * 10 + d) (by omega) (fun x hx => h x (List.mem_cons_of_mem _ hx))
    show acc ≤ bv (acc * 10 + d) ds
    omega
theorem ub_digit {d : Int} (h0 : 0 ≤ d) (h1 : d < 10) : (UInt8.ofNat (48 + d).toNat).toNat = 48 + d.toNat := by
  rw [UInt8.toNat_ofNat']; omega
theorem parse_ub : ∀ (ds : List Int) (acc : Nat), acc < 18446744073709551616 → Lim 10 ds → Lib.parseUint10 acc (ub ds) = if bv acc ds < 18446744073709551616 then .ok (bv acc ds).toNat else .range
  | [], acc, ha, _ => by
    show Lib.NumEnd.ok acc = _
    have : bv acc [] = acc := rfl
    rw [this, if_pos (by omega)]; simp
  | d :: ds, acc, ha, h => by
    have hd := h d List.mem_cons_self
    have ht : Lim 10 ds := fun x hx => h x (List.mem_cons_of_mem _ hx)
    have e := ub_digit hd.1 hd.2
    show Lib.parseUint10 acc (UInt8.ofNat (48 + d).toNat :: ub ds) = _
    have hb : bv acc (d :: ds) = bv (acc * 10 + d) ds := rfl
    have hg := bv_ge ds (acc * 10 + d) (by omega) ht
    unfold Lib.parseUint10
    rw [e, if_pos (by omega), hb]
    have e2 : 48 + d.toNat - 48 = d.toNat := by omega
    rw [e2]
    by_cases h1 : 1844674407370955162 ≤ acc
    · rw [if_pos h1, if_neg (by omega)]
    · rw [if_neg h1]
      by_cases h2 : 18446744073709551616 ≤ acc * 10 + d.toNat
      · rw [if_pos h2, if_neg (by omega)]
      · rw [if_neg h2, parse_ub ds _ (by omega) ht]
        have : (((acc * 10 + d.toNat : Nat)) : Int) = acc * 10 + d := by omega
        rw [this]
theorem data_of (l : List Int) : (bytesOf l).data.toList = l.map fun n => UInt8.ofNat n.toNat := by simp [bytesOf]
end Go.Proofs.YtejefchehdifhaaGreatDoor.Ev
end
section
set_option linter.unusedVariables false
set_option linter.unusedSimpArgs false
namespace Go.Proofs.YtejefchehdifhaaGreatDoor.Ev
open Go
theorem ba_ext {s t : ByteArray} (h : s.data.toList = t.data.toList) : s = t := by
  cases s; cases t
  congr
  exact Array.toList_inj.1 h
def tb (ds : List Int) : ByteArray := ⟨(ub ds).toArray⟩
theorem tb_size (ds : List Int) : (tb ds).size = ds.length := by
  show (tb ds).data.size = _
  simp [tb, ub]
theorem tb_extract (ds : List Int) (a b : Nat) : (tb ds).extract a b = tb ((ds.drop a).take (b - a)) := by
  refine ba_ext ?_
  have h := Lib.extract_toList (tb ds) a b
  rw [ByteArray.toList_eq] at h
  rw [h]
  simp [tb, ub]
theorem app_of (l m : List Int) : bytesOf l ++ bytesOf m = bytesOf (l ++ m) := by
  refine ba_ext ?_
  simp [bytesOf, ByteArray.data_append]
theorem extract_of (l : List Int) (a b : Nat) : (bytesOf l).extract a b = bytesOf ((l.drop a).take (b - a)) := by
  refine ba_ext ?_
  have h := Lib.extract_toList (bytesOf l) a b
  rw [ByteArray.toList_eq] at h
  rw [h]
  simp [bytesOf]
theorem bv_app (l m : List Int) (acc : Int) : bv acc (l ++ m) = bv (bv acc l) m := by simp [bv]
theorem bv_acc : ∀ (m : List Int) (acc : Int), bv acc m = acc * 10 ^ m.length + bv 0 m
  | [], acc => by show acc = acc * 10 ^ 0 + 0; rw [Int.pow_zero]; omega
  | d :: m, acc => by
    show bv (acc * 10 + d) m = _
    rw [bv_acc m (acc * 10 + d)]
    have h : bv 0 (d :: m) = bv (0 * 10 + d) m := rfl
    rw [h, bv_acc m (0 * 10 + d), List.length_cons, Int.pow_succ]
    grind
theorem bv_join (l m : List Int) : bv 0 (l ++ m) = bv 0 l * 10 ^ m.length + bv 0 m := by rw [bv_app, bv_acc]
theorem bv_nonneg (l : List Int) (h : Lim 10 l) : 0 ≤ bv 0 l := bv_ge l 0 (by omega) h
theorem bv_lt (l : List Int) (h : Lim 10 l) : bv 0 l < 10 ^ l.length := by
  have h1 := bv_val l.reverse
  rw [List.reverse_reverse] at h1
  have h2 := val_lt (B := 10) (by omega) (l := l.reverse) (fun x hx => h x (by simpa using hx))
  rw [List.length_reverse] at h2
  omega
theorem bv_cut : ∀ l : List Int, bv 0 (l.dropWhile (· == 0)) = bv 0 l
  | [] => rfl
  | d :: l => by
    rw [List.dropWhile_cons]
    split
    · rename_i h
      have : d = 0 := by simpa using h
      subst this
      exact bv_cut l
    · rfl
theorem cut_norm (l : List Int) : Norm (l.dropWhile (· == 0)).reverse := by
  intro hne
  rw [List.getLast_reverse]
  have h1 : l.dropWhile (· == 0) ≠ [] := by simpa using hne
  have := List.head_dropWhile_not (p := fun x : Int => x == 0) (l := l) h1
  simpa using this
theorem cut_lim {l : List Int} (h : Lim 10 l) : Lim 10 (l.dropWhile (· == 0)) := fun x hx => h x ((List.dropWhile_sublist _).subset hx)
theorem cut_digs {l : List Int} (h : Lim 10 l) : (digs 10 (bv 0 l).toNat).length = (l.dropWhile (· == 0)).length := by
  have h1 := bv_val (l.dropWhile (· == 0)).reverse
  rw [List.reverse_reverse, bv_cut] at h1
  have hL : Lim 10 (l.dropWhile (· == 0)).reverse := fun x hx => cut_lim h x (by simpa using hx)
  rw [h1, digsT_eq hL (cut_norm l), List.length_reverse]
theorem atoi_short {ds : List Int} (hne : ds ≠ []) (h : Lim 10 ds) (hl : ds.length ≤ 9) : Lib.atoiAll (ub ds) = .ok (bv 0 ds) := by
  have h0 := bv_nonneg ds h
  have h1 := bv_lt ds h
  have h2 := pow_mono (B := 10) (by omega) hl
  have e9 : (10 : Int) ^ 9 = 1000000000 := by decide
  match ds, hne with
  | d :: ds, _ =>
    have hd := h d List.mem_cons_self
    have e := ub_digit hd.1 hd.2
    have hp := parse_ub (d :: ds) 0 (by omega) h
    rw [show ((0 : Nat) : Int) = 0 from rfl] at hp
    have hm : Lib.parseMag (ub (d :: ds)) = .ok (bv 0 (d :: ds)).toNat := by
      unfold Lib.parseMag
      rw [if_neg (by simp [ub]), hp, if_pos (by omega)]
    rw [show ub (d :: ds) = UInt8.ofNat (48 + d).toNat :: ub ds from rfl] at hm ⊢
    rw [Lib.atoiAll_plain _ _ (by rw [e]; omega) (by rw [e]; omega), hm]
    generalize bv 0 (d :: ds) = v at *
    show (if 9223372036854775808 ≤ v.toNat then Lib.NumEnd.range else .ok ((v.toNat : Nat) : Int)) = _
    rw [if_neg (by omega), Int.toNat_of_nonneg h0]
theorem ring_parse (p B L x : Int) : p * (L * B + x) = p * x + p * B * L := by grind
theorem parse_loop (m : Bool) (D : List Int) (hD : Lim 10 D) (hn : D.length ≤ 576) (R : TV → List Ob → Prop) (z : Int) (hz : z = if m = true then - bv 0 D else bv 0 D)
    (hR : R (.tup [(true, [.fz (.bool (outS z)), .fz (.sl 1 (ints .u32 (outL z)))]), (false, [.fz (.bool (outE z == 0))])]) []) :
    ∀ (k e : Nat) (ei : Int) (o : List Int), e ≤ k → e ≤ D.length → (ei = e ∨ (e = 0 ∧ -9 ≤ ei ∧ ei ≤ 0)) → o.length + e ≤ D.length → Lim 1000000000 o → val 1000000000 o + 1000000000 ^ o.length * bv 0 (D.take e) = bv 0 D →
      num_Parse_L0 R (tb D) m ei (ints .u32 o)
  | k, e, ei, o, hk, he, hei, hlen, hL, hv => by
    refine num_Parse_l0 ?_
    unfold num_Parse_R0
    simp only [dec_t, dec_f, ints_snoc, ints_len, ints_one]
    refine ⟨fun h => ?_, fun h => ?_⟩
    · have e1 : ei = e := by omega
      subst e1
      have e2 : IntKind.wrap .i64 ((e : Int) - 9) = (e : Int) - 9 := w64 (by omega) (by omega)
      have e3 : (if (0 : Int) > (e : Int) - 9 then 0 else (e : Int) - 9) = ((e - 9 : Nat) : Int) := by split <;> omega
      rw [e2, e3, Int.toNat_natCast, Int.toNat_natCast, tb_extract, tb_size]
      have hLc : Lim 10 ((D.drop (e - 9)).take (e - (e - 9))) := (hD.drop _).take _
      have hlc : ((D.drop (e - 9)).take (e - (e - 9))).length = e - (e - 9) := by rw [List.length_take, List.length_drop]; omega
      have hne : (D.drop (e - 9)).take (e - (e - 9)) ≠ [] := fun h0 => by rw [h0] at hlc; simp at hlc; omega
      have hsplit : D.take e = D.take (e - 9) ++ (D.drop (e - 9)).take (e - (e - 9)) := by
        rw [← List.take_add]; congr 1; omega
      have hb0 := bv_nonneg _ hLc
      have hb1 := bv_lt _ hLc
      have hb2 := pow_mono (B := 10) (by omega) (show ((D.drop (e - 9)).take (e - (e - 9))).length ≤ 9 by omega)
      have e9 : (10 : Int) ^ 9 = 1000000000 := by decide
      have ha := atoi_short hne hLc (by omega)
      have hj : bv 0 (D.take e) = bv 0 (D.take (e - 9)) * 1000000000 + bv 0 ((D.drop (e - 9)).take (e - (e - 9))) := by
        rw [hsplit, bv_join, hlc]
        by_cases h9 : 9 ≤ e
        · rw [show e - (e - 9) = 9 by omega, e9]
        · rw [show e - 9 = 0 by omega, List.take_zero]
          show 0 * _ + _ = 0 * _ + _
          omega
      rw [hj] at hv
      generalize (D.drop (e - 9)).take (e - (e - 9)) = c at *
      have hA := Atoi_fn (tb c) (by rw [tb_size]; omega)
      have hav : atoiV (tb c) = bv 0 c := by
        unfold atoiV
        rw [show (tb c).data.toList = ub c from by simp [tb], ha]
      rw [hav] at hA
      refine ⟨⟨by omega, by omega, by omega⟩, _, _, hA, ?_, ?_⟩
      · simp only [List.length_cons, List.length_nil]; omega
      · rw [wu32 (by omega) (by omega), ints_app]
        match k, hk with
        | 0, hk => omega
        | k + 1, hk =>
          refine parse_loop m D hD hn R z hz hR k (e - 9) ((e : Int) - 9) (o ++ [bv 0 c]) (by omega) (by omega) (by omega) (by simp; omega) (hL.snoc hb0 (by omega)) ?_
          rw [val_snoc, List.length_append, List.length_singleton, Int.pow_succ, ← hv, ring_parse]
          omega
    · have e0 : e = 0 := by omega
      subst e0
      rw [List.take_zero, show bv 0 [] = 0 from rfl, Int.mul_zero, Int.add_zero] at hv
      have hz2 : sv m o = z := by rw [hz, ← hv]; rfl
      have := of_ok m o (by omega) hL
      rw [hz2] at this
      exact ⟨_, _, _, this, hR⟩
def okX (X : List Int) : Bool := decide (X ≠ []) && X.all fun c => decide (48 ≤ c ∧ c ≤ 57)
def vX (X : List Int) : Int := bv 0 (X.map (· - 48))
def ptS (m : Bool) (X : List Int) : Bool := if okX X = true then mkS m (vX X) else false
def ptL (X : List Int) : List Int := if okX X = true then mkL (vX X) else []
def ptB (X : List Int) : Bool := if okX X = true then mkB (vX X) else false
abbrev ptT (m : Bool) (X : List Int) : TV := .tup [(true, [.fz (.bool (ptS m X)), .fz (.sl 1 (ints .u32 (ptL X)))]), (false, [.fz (.bool (ptB X))])]
abbrev ptBad : TV := .tup [(true, [.fz (.bool false), .fz (.sl 1 ([] : List (List FV)))]), (false, [.fz (.bool false)])]
theorem ptT_bad {m : Bool} {X : List Int} (h : okX X = false) : ptT m X = ptBad := by
  unfold ptT ptS ptL ptB; rw [h]; rfl
theorem ptT_large {m : Bool} {X : List Int} (h : mkB (vX X) = false) : ptT m X = ptBad := by
  have h1 : 576 < (digs 10 (vX X).toNat).length := by
    unfold mkB at h
    split at h
    · assumption
    · cases h
  unfold ptT ptS ptL ptB mkS mkL mkB
  rw [if_pos h1, if_pos h1, if_pos h1]
  cases okX X <;> rfl
theorem pt_dig {X : List Int} (h : X.all (fun c => decide (48 ≤ c ∧ c ≤ 57)) = true) : Lim 10 (X.map (· - 48)) ∧ (bytesOf X).data.toList = ub (X.map (· - 48)) := by
  rw [List.all_eq_true] at h
  constructor
  · intro x hx
    obtain ⟨c, hc, rfl⟩ := List.mem_map.1 hx
    have := h c hc
    simp only [decide_eq_true_eq] at this
    omega
  · rw [data_of, ub, List.map_map]
    refine List.map_congr_left fun c hc => ?_
    show UInt8.ofNat c.toNat = UInt8.ofNat (48 + (c - 48)).toNat
    congr 2
    omega
theorem dw_nil (p : UInt8 → Bool) : ∀ l : List UInt8, l.dropWhile p = [] ↔ ∀ x ∈ l, p x = true
  | [] => by simp
  | x :: l => by
    rw [List.dropWhile_cons]
    by_cases h : p x = true
    · rw [if_pos h, dw_nil p l]; simp [h]
    · rw [if_neg h]; simp [h]
theorem trim_nil (p : UInt8 → Bool) (l : List UInt8) : ((l.reverse.dropWhile p).reverse.dropWhile p = []) ↔ l.all p = true := by
  rw [dw_nil, List.all_eq_true]
  constructor
  · intro h
    have h2 : l.reverse.dropWhile p = [] := by
      by_cases hne : l.reverse.dropWhile p = []
      · exact hne
      · have := List.head_dropWhile_not (p := p) (l := l.reverse) hne
        have h3 := h _ (List.mem_reverse.2 (List.head_mem hne))
        rw [this] at h3; cases h3
    rw [dw_nil] at h2
    exact fun x hx => h2 x (by simpa using hx)
  · intro h x hx
    exact h x (by simpa using (List.dropWhile_sublist _).subset (List.mem_reverse.1 hx))
theorem ten_has (c : UInt8) : ([48, 49, 50, 51, 52, 53, 54, 55, 56, 57] : List UInt8).contains c = decide (48 ≤ c.toNat ∧ c.toNat ≤ 57) := by
  rw [Bool.eq_iff_iff]
  simp [← UInt8.toNat_inj]
  omega
theorem all_map {X : List Int} (hX : Bytes X) : (X.map fun n => UInt8.ofNat n.toNat).all (([48, 49, 50, 51, 52, 53, 54, 55, 56, 57] : List UInt8).contains ·) = X.all fun c => decide (48 ≤ c ∧ c ≤ 57) := by
  rw [Bool.eq_iff_iff, List.all_map, List.all_eq_true, List.all_eq_true]
  refine forall_congr' fun x => ⟨fun h hx => ?_, fun h hx => ?_⟩
  all_goals
    have h1 := h hx
    have h2 := hX x hx
    have h3 := u8_back h2.1 h2.2
  · simp only [Function.comp_apply, ten_has, decide_eq_true_eq] at h1 ⊢
    omega
  · simp only [Function.comp_apply, ten_has, decide_eq_true_eq] at h1 ⊢
    omega
theorem trim_test {X : List Int} (hX : Bytes X) : ((ByteArray.toList ⟨(Lib.trimS (bytesOf X).data.toList (ByteArray.mk #[48, 49, 50, 51, 52, 53, 54, 55, 56, 57]).data.toList).toArray⟩) == ByteArray.toList (ByteArray.mk #[])) = X.all fun c => decide (48 ≤ c ∧ c ≤ 57) := by
  rw [ByteArray.toList_eq, ByteArray.toList_eq, ← all_map hX, data_of]
  generalize X.map (fun n => UInt8.ofNat n.toNat) = l
  rw [Bool.eq_iff_iff, ← trim_nil, beq_iff_eq]
  rfl
theorem cutB : ∀ (D : List Int), Lim 10 D → Lib.trimLeftB (ub D) 48 = ub (D.dropWhile (· == 0))
  | [], _ => rfl
  | d :: D, h => by
    have hd := h d List.mem_cons_self
    have e := ub_digit hd.1 hd.2
    have ih := cutB D (fun x hx => h x (List.mem_cons_of_mem _ hx))
    show List.dropWhile _ (UInt8.ofNat (48 + d).toNat :: ub D) = ub (List.dropWhile _ (d :: D))
    rw [List.dropWhile_cons, List.dropWhile_cons]
    by_cases h0 : d = 0
    · subst h0
      exact ih
    · have : (UInt8.ofNat (48 + d).toNat == 48) = false := by
        rw [beq_eq_false_iff_ne, ne_eq, ← UInt8.toNat_inj, e]
        show ¬ 48 + d.toNat = 48
        omega
      rw [this, show (d == 0) = false by simpa using h0]
      rfl
theorem parse_tail (m : Bool) (X : List Int) (hX : Bytes X) (hlen : X.length ≤ 140737488355328) (R : TV → List Ob → Prop) (hR : R (ptT m X) []) :
    ((ByteArray.toList (bytesOf X) == ByteArray.toList (ByteArray.mk #[])) = true → R ptBad []) ∧
    ((ByteArray.toList (bytesOf X) == ByteArray.toList (ByteArray.mk #[])) = false →
      ∃ s9 : ByteArray, Fn Tryz.prog 83 [.one (.fz (.str (bytesOf X))), .one (.fz (.str (ByteArray.mk #[48, 49, 50, 51, 52, 53, 54, 55, 56, 57])))] [] (.one (.fz (.str s9))) [] ∧
        ((Bool.not (ByteArray.toList s9 == ByteArray.toList (ByteArray.mk #[]))) = true → R ptBad []) ∧
        ((Bool.not (ByteArray.toList s9 == ByteArray.toList (ByteArray.mk #[]))) = false →
          ∃ s10 : ByteArray, Fn Tryz.prog 84 [.one (.fz (.str (bytesOf X))), .one (.fz (.str (ByteArray.mk #[48])))] [] (.one (.fz (.str s10))) [] ∧
            (decide ((576 : Int) < ((ByteArray.size s10 : Nat) : Int)) = true → R ptBad []) ∧
            (decide ((576 : Int) < ((ByteArray.size s10 : Nat) : Int)) = false → num_Parse_L0 R s10 m ((ByteArray.size s10 : Nat) : Int) ([] : List (List FV))))) := by
  have e0 : (ByteArray.toList (bytesOf X) == ByteArray.toList (ByteArray.mk #[])) = decide (X = []) := eq_bytes (m := []) hX Bytes.nil
  rw [e0, dec_t, dec_f]
  refine ⟨fun h => ?_, fun hne => ⟨_, Trim_fn (bytesOf X) _ (by rw [size_of]; omega) (by decide) (by decide +kernel), ?_⟩⟩
  · subst h
    rw [ptT_bad rfl] at hR; exact hR
  · rw [trim_test hX, not_t, not_f]
    refine ⟨fun h => ?_, fun h => ⟨_, TrimLeft_fn (bytesOf X) 48 (by decide), ?_⟩⟩
    · rw [ptT_bad (by unfold okX; rw [h, Bool.and_false])] at hR; exact hR
    · obtain ⟨hL, hd⟩ := pt_dig h
      have hok : okX X = true := by unfold okX; rw [h]; simpa using hne
      rw [hd, cutB _ hL]
      have hsz := tb_size ((X.map (· - 48)).dropWhile (· == 0))
      unfold tb at hsz
      have hc := cut_digs hL
      have hv0 := bv_nonneg _ hL
      have hcut := bv_cut (X.map (· - 48))
      rw [hsz, dec_t, dec_f]
      refine ⟨fun hl => ?_, fun hl => ?_⟩
      · have hb : mkB (vX X) = false := by
          unfold mkB vX
          rw [if_pos (by omega)]
        rw [ptT_large hb] at hR; exact hR
      · have hb : mkB (vX X) = true := by
          unfold mkB vX
          rw [if_neg (by omega)]
        have hv0' : 0 ≤ vX X := hv0
        obtain ⟨h1, h2, h3⟩ := (mk_out m (vX X) hv0').1 hb
        refine parse_loop m _ (cut_lim hL) (by omega) R (if m = true then - vX X else vX X) (by rw [hcut]; rfl) ?_ _ _ _ [] (Nat.le_refl _) (Nat.le_refl _) (.inl rfl) (by simp) (Lim.nil _) ?_
        · rw [h1, h2, h3]
          unfold ptT ptS ptL ptB at hR
          rw [if_pos hok, if_pos hok, if_pos hok, hb] at hR
          exact hR
        · rw [List.take_length]
          show 0 + 1000000000 ^ 0 * _ = _
          rw [Int.pow_zero]; omega
def pNeg (T : List Int) : Bool := decide (T.head? = some 45)
def pRest (T : List Int) : List Int := if T.head? = some 45 ∨ T.head? = some 43 then T.tail else T
theorem trimP (T : List Int) (hT : Bytes T) (c : Nat) (hc : c < 256) : (⟨(Lib.trimPrefix (bytesOf T).data.toList [UInt8.ofNat c]).toArray⟩ : ByteArray) = bytesOf (if T.head? = some (c : Int) then T.tail else T) := by
  refine ba_ext ?_
  rw [data_of, data_of]
  unfold Lib.trimPrefix
  cases T with
  | nil => rfl
  | cons x T =>
    have hx := hT x List.mem_cons_self
    have h3 := u8_back hx.1 hx.2
    have hcc : (UInt8.ofNat c).toNat = c := by rw [UInt8.toNat_ofNat']; omega
    have : Lib.hasPrefix ((x :: T).map fun n => UInt8.ofNat n.toNat) [UInt8.ofNat c] = decide (x = (c : Int)) := by
      unfold Lib.hasPrefix
      rw [Bool.eq_iff_iff]
      simp [← UInt8.toNat_inj]
      omega
    rw [this]
    by_cases h : x = (c : Int)
    · simp [h]
    · simp [h]
theorem parse_ok (T : List Int) (hT : Bytes T) (hlen : T.length ≤ 140737488355328) : Fn Tryz.prog 47 [.one (.fz (.str (bytesOf T)))] [] (ptT (pNeg T) (pRest T)) [] := by
  refine num_Parse_fn _ ?_
  unfold num_Parse_H
  have hp : ∀ c : Nat, c < 256 → Bytes (if T.head? = some (c : Int) then T.tail else T) := fun c _ => by
    split
    · exact fun x hx => hT x (List.mem_of_mem_tail hx)
    · exact hT
  have f1 := TrimPrefix_fn (bytesOf T) (ByteArray.mk #[45])
  rw [show (ByteArray.mk #[45]).data.toList = [UInt8.ofNat 45] from rfl, trimP T hT 45 (by omega)] at f1
  refine ⟨_, f1, ?_⟩
  rw [eq_bytes (hp 45 (by omega)) hT]
  by_cases h : T.head? = some 45
  · have hT1 : (if T.head? = some ((45 : Nat) : Int) then T.tail else T) = T.tail := if_pos h
    have hne : ¬ T.tail = T := by
      intro h2
      cases T with
      | nil => cases h
      | cons x T =>
        have := congrArg List.length h2
        simp at this
    rw [hT1, decide_eq_false hne]
    have e1 : pNeg T = true := decide_eq_true h
    have e2 : pRest T = T.tail := if_pos (.inl h)
    rw [e1, e2]
    refine ⟨fun h => (by cases h), fun _ => ?_⟩
    exact parse_tail true T.tail (fun x hx => hT x (List.mem_of_mem_tail hx)) (by rw [List.length_tail]; omega) (fun r' h' => r' = ptT true T.tail ∧ h' = []) ⟨rfl, rfl⟩
  · have hT1 : (if T.head? = some ((45 : Nat) : Int) then T.tail else T) = T := if_neg h
    rw [hT1, decide_eq_true rfl]
    refine ⟨fun _ => ?_, fun h => (by cases h)⟩
    have f2 := TrimPrefix_fn (bytesOf T) (ByteArray.mk #[43])
    rw [show (ByteArray.mk #[43]).data.toList = [UInt8.ofNat 43] from rfl, trimP T hT 43 (by omega)] at f2
    refine ⟨_, f2, ?_⟩
    have e1 : pNeg T = false := decide_eq_false h
    have e2 : pRest T = (if T.head? = some ((43 : Nat) : Int) then T.tail else T) := by
      unfold pRest
      by_cases h2 : T.head? = some 43
      · rw [if_pos (.inr h2)]; exact (if_pos h2).symm
      · rw [if_neg (fun hh => hh.elim h h2)]; exact (if_neg h2).symm
    rw [e1, e2]
    refine parse_tail false _ (hp 43 (by omega)) ?_ (fun r' h' => r' = ptT false (if T.head? = some ((43 : Nat) : Int) then T.tail else T) ∧ h' = []) ⟨rfl, rfl⟩
    split
    · rw [List.length_tail]; omega
    · exact hlen
end Go.Proofs.YtejefchehdifhaaGreatDoor.Ev
end
section
set_option linter.unusedVariables false
set_option linter.unusedSimpArgs false
namespace Go.Proofs.YtejefchehdifhaaGreatDoor.Ev
open Go
theorem byte_at {T : List Int} (hT : Bytes T) {i : Nat} (h : i < T.length) : ∃ c : UInt8, (ByteArray.data (bytesOf T))[i]? = some c ∧ ((c.toNat : Nat) : Int) = rd T i :=
  (ex_byte hT (Q := fun n => n = rd T i)).2 ⟨h, rfl⟩
theorem rparse_loop (T : List Int) (hT : Bytes T) (hlen : T.length ≤ 140737488355328) (f : Nat) (hf1 : f ≤ 1) (hf : f < T.length) (R : TV → List Ob → Prop) (hR : R (ptT (decide (rd T 0 = 45)) (T.drop f)) []) :
    ∀ k : Nat, f + k ≤ T.length → (T.drop (f + k)).all (fun c => decide (48 ≤ c ∧ c ≤ 57)) = true → ref01_Parse_L0 R (bytesOf T) f ((f + k : Nat) - 1 : Int) (ints .u8 ((T.drop (f + k)).map (· - 48)).reverse)
  | 0, hk, h => by
    refine ref01_Parse_l0 ?_
    unfold ref01_Parse_R0
    rw [Nat.add_zero] at h ⊢
    simp only [ints_len, ints_app, ints_snoc, ints_take, ints_drop, ints_set, ints_rep, ints_one, ex_rd, dec_t, dec_f, beq_t, beq_f, bne_t, bne_f, not_t, not_f, List.length_set, List.length_append, List.length_cons, List.length_nil, List.length_take, List.length_drop, List.length_replicate, Int.toNat_natCast, List.nil_append, Bool.not_true, Bool.not_false, Wk_nil, Wk_cons, wk1_same, wk1_f, and_true, true_and, Bool.false_eq_true, Bool.true_eq_false, false_implies, forall_const, ex_byte hT, Int.toNat_zero]
    obtain ⟨c0, hc0, hcn⟩ : ∃ c : UInt8, (ByteArray.data (bytesOf T))[0]? = some c ∧ ((c.toNat : Nat) : Int) = rd T 0 := (ex_byte hT (Q := fun n => n = rd T 0)).2 ⟨by omega, rfl⟩
    refine ⟨fun h => by omega, fun _ => ⟨by omega, c0, hc0, ?_⟩⟩
    rw [hcn]
    have hok : okX (T.drop f) = true := by
      unfold okX
      rw [h, Bool.and_true, decide_eq_true_eq]
      intro h0
      have := congrArg List.length h0
      rw [List.length_drop] at this
      simp at this; omega
    obtain ⟨hL, _⟩ := pt_dig h
    have hL' : Lim 10 ((T.drop f).map (· - 48)).reverse := fun x hx => hL x (by simpa using hx)
    have hm := make_ok (rd T 0 == 45) _ (by simp; omega) hL'
    have hv : val 10 ((T.drop f).map (· - 48)).reverse = vX (T.drop f) := by
      have := bv_val ((T.drop f).map (· - 48)).reverse
      rw [List.reverse_reverse] at this
      exact this.symm
    rw [hv] at hm
    refine ⟨_, _, _, hm, ?_⟩
    unfold ptT ptS ptL ptB at hR
    rw [if_pos hok, if_pos hok, if_pos hok] at hR
    have e : (rd T 0 == 45) = decide (rd T 0 = 45) := by rw [Bool.eq_iff_iff]; simp
    rw [e]
    exact hR
  | k + 1, hk, h => by
    refine ref01_Parse_l0 ?_
    unfold ref01_Parse_R0
    have e : ((f + (k + 1) : Nat) : Int) - 1 = ((f + k : Nat) : Int) := by omega
    rw [e]
    have hsplit : T.drop (f + k) = rd T (f + k) :: T.drop (f + (k + 1)) := by
      rw [rd_at T (f + k) (by omega)]
      exact List.drop_eq_getElem_cons (by omega)
    have bad : ¬ (48 ≤ rd T (f + k) ∧ rd T (f + k) ≤ 57) → R ptBad [] := by
      intro hc
      have : okX (T.drop f) = false := by
        unfold okX
        rw [Bool.and_eq_false_iff]
        refine .inr ?_
        rw [Bool.eq_false_iff]
        intro hall
        rw [List.all_eq_true] at hall
        have := hall (rd T (f + k)) (by
          have h1 : T.drop (f + k) = (T.drop f).drop k := by rw [List.drop_drop]
          rw [h1] at hsplit
          exact List.mem_of_mem_drop (by rw [hsplit]; exact List.mem_cons_self))
        exact hc (by simpa using this)
      rw [ptT_bad this] at hR; exact hR
    obtain ⟨c, hc0, hcn⟩ := byte_at hT (show f + k < T.length by omega)
    simp only [dec_t, dec_f, Int.toNat_natCast]
    refine ⟨fun _ => ⟨by omega, c, hc0, fun hc => bad (by omega), fun hc => ⟨by omega, c, hc0, fun hc2 => bad (by omega), fun hc2 => ⟨by omega, c, hc0, ?_, ?_⟩⟩⟩, fun h => by omega⟩
    · rw [ints_len]; simp; omega
    · rw [hcn, ints_snoc]
      rw [hcn] at hc hc2
      have e2 : IntKind.wrap .i64 (((f + k : Nat) : Int) - 1) = ((f + k : Nat) : Int) - 1 := w64 (by omega) (by omega)
      have e3 : IntKind.wrap .u8 (rd T (f + k) - 48) = rd T (f + k) - 48 := wu8 (by omega) (by omega)
      have ih := rparse_loop T hT hlen f hf1 hf R hR k (by omega) (by rw [hsplit, List.all_cons, h, Bool.and_true]; simp; omega)
      rw [e2, e3]
      rw [hsplit, List.map_cons, List.reverse_cons] at ih
      exact ih
theorem rparse_ok (T : List Int) (hT : Bytes T) (hlen : T.length ≤ 140737488355328) : Fn Tryz.prog 53 [.one (.fz (.str (bytesOf T)))] [] (ptT (pNeg T) (pRest T)) [] := by
  refine ref01_Parse_fn _ ?_
  unfold ref01_Parse_H
  have go : ∀ f : Nat, f ≤ 1 → f < T.length → (decide (rd T 0 = 45)) = pNeg T → T.drop f = pRest T → ref01_Parse_L0 (fun r' h' => r' = ptT (pNeg T) (pRest T) ∧ h' = []) (bytesOf T) f ((T.length : Int) - 1) ([] : List (List FV)) := by
    intro f hf1 hf h1 h2
    have := rparse_loop T hT hlen f hf1 hf (fun r' h' => r' = ptT (pNeg T) (pRest T) ∧ h' = []) ⟨by rw [h1, h2], rfl⟩ (T.length - f) (by omega) (by rw [show f + (T.length - f) = T.length by omega, List.drop_length]; rfl)
    rw [show f + (T.length - f) = T.length by omega, List.drop_length] at this
    exact this
  cases T with
  | nil =>
    rw [size_of, List.length_nil]
    refine ⟨fun h => (by cases h), fun _ => ⟨fun _ => ⟨(ptT_bad rfl).symm, rfl⟩, fun h => (by cases h)⟩⟩
  | cons x X =>
    have hneg : (decide (rd (x :: X) 0 = 45)) = pNeg (x :: X) := by
      unfold pNeg
      simp [rd]
    have ew : IntKind.wrap .i64 (((x :: X).length : Int) - 1) = ((x :: X).length : Int) - 1 := w64 (by omega) (by omega)
    have hr : rd (x :: X) 0 = x := rfl
    have bad : (1 : Int) = ((x :: X).length : Int) → (x = 45 ∨ x = 43) → ptBad = ptT (pNeg (x :: X)) (pRest (x :: X)) := by
      intro h hx
      have hX : X = [] := List.length_eq_zero_iff.1 (by rw [List.length_cons] at h; omega)
      subst hX
      have : pRest [x] = [] := by unfold pRest; rcases hx with rfl | rfl <;> rfl
      rw [this]
      exact (ptT_bad rfl).symm
    obtain ⟨c, hc0, hcn⟩ := byte_at hT (show 0 < (x :: X).length by simp)
    rw [hr] at hcn
    simp only [size_of, Int.toNat_zero, dec_t, dec_f, beq_t, beq_f, ew]
    have hz : 0 < (x :: X).length := by simp
    refine ⟨fun _ => ⟨by omega, c, hc0, fun h45 => ⟨fun h => ⟨bad h (.inl (by omega)), trivial⟩, fun h => ?_⟩, fun h45 => ⟨by omega, c, hc0, fun h43 => ⟨fun h => ⟨bad h (.inr (by omega)), trivial⟩, fun h => ?_⟩, fun h43 => ⟨fun h => ?_, fun h => ?_⟩⟩⟩, fun h => ?_⟩
    · refine go 1 (by omega) (by omega) hneg ?_
      unfold pRest; rw [if_pos (.inl (by rw [List.head?_cons, ← hcn, h45]))]; rfl
    · refine go 1 (by omega) (by omega) hneg ?_
      unfold pRest; rw [if_pos (.inr (by rw [List.head?_cons, ← hcn, h43]))]; rfl
    · omega
    · refine go 0 (by omega) (by omega) hneg ?_
      unfold pRest
      rw [if_neg (by simp; omega)]; rfl
    · omega
end Go.Proofs.YtejefchehdifhaaGreatDoor.Ev
end
section
set_option linter.unusedVariables false
set_option maxRecDepth 100000
namespace Go.Proofs.YtejefchehdifhaaGreatDoor.Ev
open Go
def read_Sound_lv : List Nat → Keep := lvOf []
def read_Sound_H (R : TV → List Ob → Prop) (d0 : Int) (d1 : ByteArray) (d2 : Bool) (d3 : List (List FV)) (d4 : List (List FV)) (d5 : Int) : Prop :=
  (∃ n1 : Int, ((Fn Tryz.prog 91 [(TV.agg [(AV.fz (FV.int .i64 d0)), (AV.fz (FV.str d1)), (AV.fz (FV.bool d2)), (AV.fz (FV.sl 1 d3)), (AV.fz (FV.sl 6 d4)), (AV.fz (FV.int .i64 d5))]), (TV.one (AV.fz (FV.int .i64 1))), (TV.one (AV.fz (FV.int .i64 8192)))] [] (TV.one (AV.fz (FV.int .i64 n1))) []) ∧ (R (TV.one (AV.fz (FV.bool (decide ((0 : Int) < n1))))) [])))
theorem read_Sound_fn (d0 : Int) (d1 : ByteArray) (d2 : Bool) (d3 : List (List FV)) (d4 : List (List FV)) (d5 : Int) {r : TV} {h : List Ob} (H : read_Sound_H (fun r' h' => r' = r ∧ h' = h) d0 d1 d2 d3 d4 d5) : Fn Tryz.prog 57 [(TV.agg [(AV.fz (FV.int .i64 d0)), (AV.fz (FV.str d1)), (AV.fz (FV.bool d2)), (AV.fz (FV.sl 1 d3)), (AV.fz (FV.sl 6 d4)), (AV.fz (FV.int .i64 d5))])] [] r h :=
  Fn.by_tr (M := (modeOf [] [])) (lv := read_Sound_lv) (own := none) (F := Tryz.f57) (by kernel_rfl) (by kernel_rfl) (by first | decide | simp) (fun _ _ h => h) (by kernel_rfl) H
def read_measure_lv : List Nat → Keep := lvOf [([0, 1, 0, 1, 1, 1, 1], ⟨1879048334, 0, [], false, false⟩)]
def read_measure_S0 (d0 : Int) (d1 : ByteArray) (d2 : Bool) (d3 : List (List FV)) (d4 : List (List FV)) (d5 : Int) (depth : Int) (room : Int) (n5 : Int) (i : Int) : St := (St.mk [TV.und, (TV.one (AV.fz (FV.int .i64 depth))), (TV.one (AV.fz (FV.int .i64 room))), (TV.one (AV.ptr 0 0 0 0)), TV.und, TV.und, TV.und, (TV.one (AV.fz (FV.int .i64 n5))), TV.und, TV.und, TV.und, TV.und, TV.und, TV.und, TV.und, TV.und, TV.und, TV.und, TV.und, TV.und, TV.und, TV.und, TV.und, TV.und, TV.und, TV.und, TV.und, TV.und, (TV.one (AV.fz (FV.sl 6 d4))), (TV.one (AV.fz (FV.int .i64 (((List.length d4) : Nat) : Int)))), (TV.one (AV.fz (FV.int .i64 i))), TV.und, TV.und, TV.und, TV.und, TV.und, TV.und, TV.und, TV.und, TV.und, TV.und, TV.und, TV.und, TV.und, TV.und, TV.und, TV.und, TV.und, TV.und, TV.und, TV.und, TV.und, TV.und, TV.und, TV.und, TV.und, TV.und, TV.und, TV.und, TV.und, TV.und, TV.und, TV.und, TV.und, TV.und, TV.und, TV.und, TV.und, TV.und, TV.und, TV.und, TV.und, TV.und] [(Ob.g 39 [(AV.fz (FV.int .i64 d0)), (AV.fz (FV.str d1)), (AV.fz (FV.bool d2)), (AV.fz (FV.sl 1 d3)), (AV.fz (FV.sl 6 d4)), (AV.fz (FV.int .i64 d5))])])
def read_measure_L0 (R : TV → List Ob → Prop) (d0 : Int) (d1 : ByteArray) (d2 : Bool) (d3 : List (List FV)) (d4 : List (List FV)) (d5 : Int) (depth : Int) (room : Int) (n5 : Int) (i : Int) : Prop := LoopAt Tryz.prog (modeOf [] []) read_measure_lv Tryz.f91 none R [1, 1, 1, 1, 0, 1, 0] (read_measure_S0 d0 d1 d2 d3 d4 d5 depth room n5 i)
def read_measure_R0 (R : TV → List Ob → Prop) (d0 : Int) (d1 : ByteArray) (d2 : Bool) (d3 : List (List FV)) (d4 : List (List FV)) (d5 : Int) (depth : Int) (room : Int) (n5 : Int) (i : Int) : Prop :=
  ((((decide (i < (((List.length d4) : Nat) : Int))) = true) → (((0 : Int) ≤ i) ∧ (∃ n11 : Int, (∃ s4 : ByteArray, (∃ b7 : Bool, (∃ es8 : List (List FV), (∃ es9 : List (List FV), (∃ n12 : Int, (((d4)[(Int.toNat i)]? = (some [(FV.int .i64 n11), (FV.str s4), (FV.bool b7), (FV.sl 1 es8), (FV.sl 6 es9), (FV.int .i64 n12)])) ∧ (∃ n13 : Int, ((Fn Tryz.prog 91 [(TV.agg [(AV.fz (FV.int .i64 n11)), (AV.fz (FV.str s4)), (AV.fz (FV.bool b7)), (AV.fz (FV.sl 1 es8)), (AV.fz (FV.sl 6 es9)), (AV.fz (FV.int .i64 n12))]), (TV.one (AV.fz (FV.int .i64 (IntKind.wrap .i64 (depth + 1))))), (TV.one (AV.fz (FV.int .i64 (IntKind.wrap .i64 (room - n5)))))] [] (TV.one (AV.fz (FV.int .i64 n13))) []) ∧ ((((decide (n13 < 0)) = true) → (R (TV.one (AV.fz (FV.int .i64 (-1)))) [])) ∧ (((decide (n13 < 0)) = false) → (read_measure_L0 R d0 d1 d2 d3 d4 d5 depth room (IntKind.wrap .i64 (n5 + n13)) (IntKind.wrap .i64 (i + 1)))))))))))))))) ∧ (((decide (i < (((List.length d4) : Nat) : Int))) = false) → (∃ b8 : Bool, ((Fn Tryz.prog 123 [(TV.agg [(AV.fz (FV.int .i64 d0)), (AV.fz (FV.str d1)), (AV.fz (FV.bool d2)), (AV.fz (FV.sl 1 d3)), (AV.fz (FV.sl 6 d4)), (AV.fz (FV.int .i64 d5))]), (TV.one (AV.fz (FV.bool false))), (TV.one (AV.fz (FV.bool false))), (TV.one (AV.fz (FV.bool true)))] [] (TV.one (AV.fz (FV.bool b8))) []) ∧ ((((Bool.not b8) = true) → (R (TV.one (AV.fz (FV.int .i64 (-1)))) [])) ∧ (((Bool.not b8) = false) → ((((d0 == 2) = true) → ((((decide ((((List.length d4) : Nat) : Int) < 2)) = true) → (R (TV.one (AV.fz (FV.int .i64 (-1)))) [])) ∧ (((decide ((((List.length d4) : Nat) : Int) < 2)) = false) → (((0 : Int) ≤ (IntKind.wrap .i64 ((((List.length d4) : Nat) : Int) - 1))) ∧ (∃ n14 : Int, (∃ s5 : ByteArray, (∃ b9 : Bool, (∃ es10 : List (List FV), (∃ es11 : List (List FV), (∃ n15 : Int, (((d4)[(Int.toNat (IntKind.wrap .i64 ((((List.length d4) : Nat) : Int) - 1)))]? = (some [(FV.int .i64 n14), (FV.str s5), (FV.bool b9), (FV.sl 1 es10), (FV.sl 6 es11), (FV.int .i64 n15)])) ∧ ((((n14 == 1) = true) → (R (TV.one (AV.fz (FV.int .i64 (-1)))) [])) ∧ (((n14 == 1) = false) → ((((n14 == 2) = true) → (R (TV.one (AV.fz (FV.int .i64 (-1)))) [])) ∧ (((n14 == 2) = false) → (R (TV.one (AV.fz (FV.int .i64 n5))) [])))))))))))))))) ∧ (((d0 == 2) = false) → (R (TV.one (AV.fz (FV.int .i64 n5))) [])))))))))
theorem read_measure_l0 {R : TV → List Ob → Prop} {d0 : Int} {d1 : ByteArray} {d2 : Bool} {d3 : List (List FV)} {d4 : List (List FV)} {d5 : Int} {depth : Int} {room : Int} {n5 : Int} {i : Int} (h : read_measure_R0 R d0 d1 d2 d3 d4 d5 depth room n5 i) : read_measure_L0 R d0 d1 d2 d3 d4 d5 depth room n5 i :=
  LoopAt.by_tr (by kernel_rfl) (by kernel_rfl) h
def read_measure_H (R : TV → List Ob → Prop) (d0 : Int) (d1 : ByteArray) (d2 : Bool) (d3 : List (List FV)) (d4 : List (List FV)) (d5 : Int) (depth : Int) (room : Int) : Prop :=
  ((((decide ((64 : Int) < depth)) = true) → (R (TV.one (AV.fz (FV.int .i64 (-1)))) [])) ∧ (((decide ((64 : Int) < depth)) = false) → ((((decide (room < 1)) = true) → (R (TV.one (AV.fz (FV.int .i64 (-1)))) [])) ∧ (((decide (room < 1)) = false) → ((((d0 == 1) = true) → (read_measure_L0 R d0 d1 d2 d3 d4 d5 depth room 1 0)) ∧ (((d0 == 1) = false) → ((((d0 == 3) = true) → (read_measure_L0 R d0 d1 d2 d3 d4 d5 depth room 1 0)) ∧ (((d0 == 3) = false) → ((((d0 == 2) = true) → (read_measure_L0 R d0 d1 d2 d3 d4 d5 depth room 1 0)) ∧ (((d0 == 2) = false) → (∃ b7 : Bool, ((Fn Tryz.prog 122 [(TV.agg [(AV.fz (FV.int .i64 d0)), (AV.fz (FV.str d1)), (AV.fz (FV.bool d2)), (AV.fz (FV.sl 1 d3)), (AV.fz (FV.sl 6 d4)), (AV.fz (FV.int .i64 d5))])] [] (TV.one (AV.fz (FV.bool b7))) []) ∧ ((((Bool.not b7) = true) → (R (TV.one (AV.fz (FV.int .i64 (-1)))) [])) ∧ (((Bool.not b7) = false) → (R (TV.one (AV.fz (FV.int .i64 1))) [])))))))))))))))
theorem read_measure_fn (d0 : Int) (d1 : ByteArray) (d2 : Bool) (d3 : List (List FV)) (d4 : List (List FV)) (d5 : Int) (depth : Int) (room : Int) {r : TV} {h : List Ob} (H : read_measure_H (fun r' h' => r' = r ∧ h' = h) d0 d1 d2 d3 d4 d5 depth room) : Fn Tryz.prog 91 [(TV.agg [(AV.fz (FV.int .i64 d0)), (AV.fz (FV.str d1)), (AV.fz (FV.bool d2)), (AV.fz (FV.sl 1 d3)), (AV.fz (FV.sl 6 d4)), (AV.fz (FV.int .i64 d5))]), (TV.one (AV.fz (FV.int .i64 depth))), (TV.one (AV.fz (FV.int .i64 room)))] [] r h :=
  Fn.by_tr (M := (modeOf [] [])) (lv := read_measure_lv) (own := none) (F := Tryz.f91) (by kernel_rfl) (by kernel_rfl) (by first | decide | simp) (fun _ _ h => h) (by kernel_rfl) H
def read_leaf_lv : List Nat → Keep := lvOf []
def read_leaf_H (R : TV → List Ob → Prop) (d0 : Int) (d1 : ByteArray) (d2 : Bool) (d3 : List (List FV)) (d4 : List (List FV)) (d5 : Int) : Prop :=
  ((((d0 == 4) = true) → (∃ n4 : Int, (∃ s1 : ByteArray, (∃ b11 : Bool, (∃ es2 : List (List FV), (∃ es3 : List (List FV), (∃ n5 : Int, (∃ b12 : Bool, ((Fn Tryz.prog 15 [(TV.one (AV.fz (FV.str d1)))] [] (TV.tup [(true, [(AV.fz (FV.int .i64 n4)), (AV.fz (FV.str s1)), (AV.fz (FV.bool b11)), (AV.fz (FV.sl 1 es2)), (AV.fz (FV.sl 6 es3)), (AV.fz (FV.int .i64 n5))]), (false, [(AV.fz (FV.bool b12))])]) []) ∧ (((b12 = true) → ((((n4 == 4) = true) → (∃ b13 : Bool, ((Fn Tryz.prog 123 [(TV.agg [(AV.fz (FV.int .i64 d0)), (AV.fz (FV.str d1)), (AV.fz (FV.bool d2)), (AV.fz (FV.sl 1 d3)), (AV.fz (FV.sl 6 d4)), (AV.fz (FV.int .i64 d5))]), (TV.one (AV.fz (FV.bool true))), (TV.one (AV.fz (FV.bool false))), (TV.one (AV.fz (FV.bool false)))] [] (TV.one (AV.fz (FV.bool b13))) []) ∧ (R (TV.one (AV.fz (FV.bool b13))) [])))) ∧ (((n4 == 4) = false) → (R (TV.one (AV.fz (FV.bool false))) [])))) ∧ ((b12 = false) → (R (TV.one (AV.fz (FV.bool false))) [])))))))))))) ∧ (((d0 == 4) = false) → ((((d0 == 5) = true) → (∃ n6 : Int, ((Fn Tryz.prog 141 [(TV.one (AV.fz (FV.str d1)))] [] (TV.one (AV.fz (FV.int .i64 n6))) []) ∧ ((((decide ((0 : Int) ≤ n6)) = true) → ((((decide (n6 ≤ 4096)) = true) → (∃ b14 : Bool, ((Fn Tryz.prog 123 [(TV.agg [(AV.fz (FV.int .i64 d0)), (AV.fz (FV.str d1)), (AV.fz (FV.bool d2)), (AV.fz (FV.sl 1 d3)), (AV.fz (FV.sl 6 d4)), (AV.fz (FV.int .i64 d5))]), (TV.one (AV.fz (FV.bool true))), (TV.one (AV.fz (FV.bool false))), (TV.one (AV.fz (FV.bool false)))] [] (TV.one (AV.fz (FV.bool b14))) []) ∧ (R (TV.one (AV.fz (FV.bool b14))) [])))) ∧ (((decide (n6 ≤ 4096)) = false) → (R (TV.one (AV.fz (FV.bool false))) [])))) ∧ (((decide ((0 : Int) ≤ n6)) = false) → (R (TV.one (AV.fz (FV.bool false))) [])))))) ∧ (((d0 == 5) = false) → ((((d0 == 6) = true) → (∃ n7 : Int, ((Fn Tryz.prog 141 [(TV.one (AV.fz (FV.str d1)))] [] (TV.one (AV.fz (FV.int .i64 n7))) []) ∧ ((((n7 == 1) = true) → (∃ b15 : Bool, ((Fn Tryz.prog 123 [(TV.agg [(AV.fz (FV.int .i64 d0)), (AV.fz (FV.str d1)), (AV.fz (FV.bool d2)), (AV.fz (FV.sl 1 d3)), (AV.fz (FV.sl 6 d4)), (AV.fz (FV.int .i64 d5))]), (TV.one (AV.fz (FV.bool true))), (TV.one (AV.fz (FV.bool false))), (TV.one (AV.fz (FV.bool false)))] [] (TV.one (AV.fz (FV.bool b15))) []) ∧ (R (TV.one (AV.fz (FV.bool b15))) [])))) ∧ (((n7 == 1) = false) → (R (TV.one (AV.fz (FV.bool false))) [])))))) ∧ (((d0 == 6) = false) → ((((d0 == 7) = true) → (∃ b16 : Bool, ((Fn Tryz.prog 124 [(TV.agg [(AV.fz (FV.bool d2)), (AV.fz (FV.sl 1 d3))])] [] (TV.one (AV.fz (FV.bool b16))) []) ∧ (((b16 = true) → (∃ b17 : Bool, ((Fn Tryz.prog 123 [(TV.agg [(AV.fz (FV.int .i64 d0)), (AV.fz (FV.str d1)), (AV.fz (FV.bool d2)), (AV.fz (FV.sl 1 d3)), (AV.fz (FV.sl 6 d4)), (AV.fz (FV.int .i64 d5))]), (TV.one (AV.fz (FV.bool false))), (TV.one (AV.fz (FV.bool true))), (TV.one (AV.fz (FV.bool false)))] [] (TV.one (AV.fz (FV.bool b17))) []) ∧ (R (TV.one (AV.fz (FV.bool b17))) [])))) ∧ ((b16 = false) → (R (TV.one (AV.fz (FV.bool false))) [])))))) ∧ (((d0 == 7) = false) → ((((d0 == 11) = true) → (∃ b18 : Bool, ((Fn Tryz.prog 123 [(TV.agg [(AV.fz (FV.int .i64 d0)), (AV.fz (FV.str d1)), (AV.fz (FV.bool d2)), (AV.fz (FV.sl 1 d3)), (AV.fz (FV.sl 6 d4)), (AV.fz (FV.int .i64 d5))]), (TV.one (AV.fz (FV.bool true))), (TV.one (AV.fz (FV.bool false))), (TV.one (AV.fz (FV.bool false)))] [] (TV.one (AV.fz (FV.bool b18))) []) ∧ (R (TV.one (AV.fz (FV.bool b18))) [])))) ∧ (((d0 == 11) = false) → ((((d0 == 8) = true) → (∃ b19 : Bool, ((Fn Tryz.prog 123 [(TV.agg [(AV.fz (FV.int .i64 d0)), (AV.fz (FV.str d1)), (AV.fz (FV.bool d2)), (AV.fz (FV.sl 1 d3)), (AV.fz (FV.sl 6 d4)), (AV.fz (FV.int .i64 d5))]), (TV.one (AV.fz (FV.bool false))), (TV.one (AV.fz (FV.bool false))), (TV.one (AV.fz (FV.bool false)))] [] (TV.one (AV.fz (FV.bool b19))) []) ∧ (R (TV.one (AV.fz (FV.bool b19))) [])))) ∧ (((d0 == 8) = false) → ((((d0 == 9) = true) → (∃ b20 : Bool, ((Fn Tryz.prog 123 [(TV.agg [(AV.fz (FV.int .i64 d0)), (AV.fz (FV.str d1)), (AV.fz (FV.bool d2)), (AV.fz (FV.sl 1 d3)), (AV.fz (FV.sl 6 d4)), (AV.fz (FV.int .i64 d5))]), (TV.one (AV.fz (FV.bool false))), (TV.one (AV.fz (FV.bool false))), (TV.one (AV.fz (FV.bool false)))] [] (TV.one (AV.fz (FV.bool b20))) []) ∧ (R (TV.one (AV.fz (FV.bool b20))) [])))) ∧ (((d0 == 9) = false) → ((((d0 == 10) = true) → (∃ b21 : Bool, ((Fn Tryz.prog 123 [(TV.agg [(AV.fz (FV.int .i64 d0)), (AV.fz (FV.str d1)), (AV.fz (FV.bool d2)), (AV.fz (FV.sl 1 d3)), (AV.fz (FV.sl 6 d4)), (AV.fz (FV.int .i64 d5))]), (TV.one (AV.fz (FV.bool false))), (TV.one (AV.fz (FV.bool false))), (TV.one (AV.fz (FV.bool false)))] [] (TV.one (AV.fz (FV.bool b21))) []) ∧ (R (TV.one (AV.fz (FV.bool b21))) [])))) ∧ (((d0 == 10) = false) → (R (TV.one (AV.fz (FV.bool false))) [])))))))))))))))))
theorem read_leaf_fn (d0 : Int) (d1 : ByteArray) (d2 : Bool) (d3 : List (List FV)) (d4 : List (List FV)) (d5 : Int) {r : TV} {h : List Ob} (H : read_leaf_H (fun r' h' => r' = r ∧ h' = h) d0 d1 d2 d3 d4 d5) : Fn Tryz.prog 122 [(TV.agg [(AV.fz (FV.int .i64 d0)), (AV.fz (FV.str d1)), (AV.fz (FV.bool d2)), (AV.fz (FV.sl 1 d3)), (AV.fz (FV.sl 6 d4)), (AV.fz (FV.int .i64 d5))])] [] r h :=
  Fn.by_tr (M := (modeOf [] [])) (lv := read_leaf_lv) (own := none) (F := Tryz.f122) (by kernel_rfl) (by kernel_rfl) (by first | decide | simp) (fun _ _ h => h) (by kernel_rfl) H
def read_plain_lv : List Nat → Keep := lvOf []
def read_plain_H (R : TV → List Ob → Prop) (d0 : Int) (d1 : ByteArray) (d2 : Bool) (d3 : List (List FV)) (d4 : List (List FV)) (d5 : Int) (text : Bool) (number : Bool) (list : Bool) : Prop :=
  ((((Bool.not d2) = true) → (((text = true) → (((number = true) → (((list = true) → (R (TV.one (AV.fz (FV.bool true))) [])) ∧ ((list = false) → (R (TV.one (AV.fz (FV.bool ((((List.length d4) : Nat) : Int) == 0)))) [])))) ∧ ((number = false) → (((((((List.length d3) : Nat) : Int) == 0) = true) → (((list = true) → (R (TV.one (AV.fz (FV.bool true))) [])) ∧ ((list = false) → (R (TV.one (AV.fz (FV.bool ((((List.length d4) : Nat) : Int) == 0)))) [])))) ∧ ((((((List.length d3) : Nat) : Int) == 0) = false) → (R (TV.one (AV.fz (FV.bool false))) [])))))) ∧ ((text = false) → (((((ByteArray.toList d1) == (ByteArray.toList (ByteArray.mk #[]))) = true) → (((number = true) → (((list = true) → (R (TV.one (AV.fz (FV.bool true))) [])) ∧ ((list = false) → (R (TV.one (AV.fz (FV.bool ((((List.length d4) : Nat) : Int) == 0)))) [])))) ∧ ((number = false) → (((((((List.length d3) : Nat) : Int) == 0) = true) → (((list = true) → (R (TV.one (AV.fz (FV.bool true))) [])) ∧ ((list = false) → (R (TV.one (AV.fz (FV.bool ((((List.length d4) : Nat) : Int) == 0)))) [])))) ∧ ((((((List.length d3) : Nat) : Int) == 0) = false) → (R (TV.one (AV.fz (FV.bool false))) [])))))) ∧ ((((ByteArray.toList d1) == (ByteArray.toList (ByteArray.mk #[]))) = false) → (R (TV.one (AV.fz (FV.bool false))) [])))))) ∧ (((Bool.not d2) = false) → (((text = true) → (((number = true) → (((list = true) → (R (TV.one (AV.fz (FV.bool true))) [])) ∧ ((list = false) → (R (TV.one (AV.fz (FV.bool ((((List.length d4) : Nat) : Int) == 0)))) [])))) ∧ ((number = false) → (R (TV.one (AV.fz (FV.bool false))) [])))) ∧ ((text = false) → (((((ByteArray.toList d1) == (ByteArray.toList (ByteArray.mk #[]))) = true) → (((number = true) → (((list = true) → (R (TV.one (AV.fz (FV.bool true))) [])) ∧ ((list = false) → (R (TV.one (AV.fz (FV.bool ((((List.length d4) : Nat) : Int) == 0)))) [])))) ∧ ((number = false) → (R (TV.one (AV.fz (FV.bool false))) [])))) ∧ ((((ByteArray.toList d1) == (ByteArray.toList (ByteArray.mk #[]))) = false) → (R (TV.one (AV.fz (FV.bool false))) [])))))))
theorem read_plain_fn (d0 : Int) (d1 : ByteArray) (d2 : Bool) (d3 : List (List FV)) (d4 : List (List FV)) (d5 : Int) (text : Bool) (number : Bool) (list : Bool) {r : TV} {h : List Ob} (H : read_plain_H (fun r' h' => r' = r ∧ h' = h) d0 d1 d2 d3 d4 d5 text number list) : Fn Tryz.prog 123 [(TV.agg [(AV.fz (FV.int .i64 d0)), (AV.fz (FV.str d1)), (AV.fz (FV.bool d2)), (AV.fz (FV.sl 1 d3)), (AV.fz (FV.sl 6 d4)), (AV.fz (FV.int .i64 d5))]), (TV.one (AV.fz (FV.bool text))), (TV.one (AV.fz (FV.bool number))), (TV.one (AV.fz (FV.bool list)))] [] r h :=
  Fn.by_tr (M := (modeOf [] [])) (lv := read_plain_lv) (own := none) (F := Tryz.f123) (by kernel_rfl) (by kernel_rfl) (by first | decide | simp) (fun _ _ h => h) (by kernel_rfl) H
def read_chars_lv : List Nat → Keep := lvOf []
def read_chars_H (R : TV → List Ob → Prop) (s : ByteArray) : Prop :=
  (∃ es1 : List (List FV), (∃ n2 : Int, (∃ n3 : Int, ((Fn Tryz.prog 48 [(TV.one (AV.fz (FV.sl 1 (List.map (fun b3 => [(FV.int .u8 (((UInt8.toNat b3) : Nat) : Int))]) (Array.toList (ByteArray.data s))))))] [] (TV.tup [(false, [(AV.fz (FV.sl 1 es1))]), (false, [(AV.fz (FV.int .i64 n2))]), (false, [(AV.fz (FV.int .i64 n3))])]) []) ∧ ((((n3 != 0) = true) → (R (TV.one (AV.fz (FV.int .i64 (-1)))) [])) ∧ (((n3 != 0) = false) → (R (TV.one (AV.fz (FV.int .i64 (((List.length es1) : Nat) : Int)))) [])))))))
theorem read_chars_fn (s : ByteArray) {r : TV} {h : List Ob} (H : read_chars_H (fun r' h' => r' = r ∧ h' = h) s) : Fn Tryz.prog 141 [(TV.one (AV.fz (FV.str s)))] [] r h :=
  Fn.by_tr (M := (modeOf [] [])) (lv := read_chars_lv) (own := none) (F := Tryz.f141) (by kernel_rfl) (by kernel_rfl) (by first | decide | simp) (fun _ _ h => h) (by kernel_rfl) H
def token_Atom_lv : List Nat → Keep := lvOf []
def token_Atom_H (R : TV → List Ob → Prop) (s : ByteArray) : Prop :=
  (((((ByteArray.toList s) == (ByteArray.toList (ByteArray.mk #[35, 116]))) = true) → (R (TV.tup [(true, [(AV.fz (FV.int .i64 8)), (AV.fz (FV.str (ByteArray.mk #[]))), (AV.fz (FV.bool false)), (AV.fz (FV.sl 1 ([] : List (List FV)))), (AV.fz (FV.sl 6 ([] : List (List FV)))), (AV.fz (FV.int .i64 0))]), (false, [(AV.fz (FV.bool true))])]) [])) ∧ ((((ByteArray.toList s) == (ByteArray.toList (ByteArray.mk #[35, 116]))) = false) → (((((ByteArray.toList s) == (ByteArray.toList (ByteArray.mk #[35, 116, 114, 117, 101]))) = true) → (R (TV.tup [(true, [(AV.fz (FV.int .i64 8)), (AV.fz (FV.str (ByteArray.mk #[]))), (AV.fz (FV.bool false)), (AV.fz (FV.sl 1 ([] : List (List FV)))), (AV.fz (FV.sl 6 ([] : List (List FV)))), (AV.fz (FV.int .i64 0))]), (false, [(AV.fz (FV.bool true))])]) [])) ∧ ((((ByteArray.toList s) == (ByteArray.toList (ByteArray.mk #[35, 116, 114, 117, 101]))) = false) → (((((ByteArray.toList s) == (ByteArray.toList (ByteArray.mk #[35, 102]))) = true) → (R (TV.tup [(true, [(AV.fz (FV.int .i64 9)), (AV.fz (FV.str (ByteArray.mk #[]))), (AV.fz (FV.bool false)), (AV.fz (FV.sl 1 ([] : List (List FV)))), (AV.fz (FV.sl 6 ([] : List (List FV)))), (AV.fz (FV.int .i64 0))]), (false, [(AV.fz (FV.bool true))])]) [])) ∧ ((((ByteArray.toList s) == (ByteArray.toList (ByteArray.mk #[35, 102]))) = false) → (((((ByteArray.toList s) == (ByteArray.toList (ByteArray.mk #[35, 102, 97, 108, 115, 101]))) = true) → (R (TV.tup [(true, [(AV.fz (FV.int .i64 9)), (AV.fz (FV.str (ByteArray.mk #[]))), (AV.fz (FV.bool false)), (AV.fz (FV.sl 1 ([] : List (List FV)))), (AV.fz (FV.sl 6 ([] : List (List FV)))), (AV.fz (FV.int .i64 0))]), (false, [(AV.fz (FV.bool true))])]) [])) ∧ ((((ByteArray.toList s) == (ByteArray.toList (ByteArray.mk #[35, 102, 97, 108, 115, 101]))) = false) → (∃ b12 : Bool, (∃ es2 : List (List FV), (∃ b13 : Bool, ((Fn Tryz.prog 47 [(TV.one (AV.fz (FV.str s)))] [] (TV.tup [(true, [(AV.fz (FV.bool b12)), (AV.fz (FV.sl 1 es2))]), (false, [(AV.fz (FV.bool b13))])]) []) ∧ (((b13 = true) → (R (TV.tup [(true, [(AV.fz (FV.int .i64 7)), (AV.fz (FV.str (ByteArray.mk #[]))), (AV.fz (FV.bool b12)), (AV.fz (FV.sl 1 es2)), (AV.fz (FV.sl 6 ([] : List (List FV)))), (AV.fz (FV.int .i64 0))]), (false, [(AV.fz (FV.bool true))])]) [])) ∧ ((b13 = false) → (∃ es3 : List (List FV), (∃ n2 : Int, (∃ n3 : Int, ((Fn Tryz.prog 48 [(TV.one (AV.fz (FV.sl 1 (List.map (fun b15 => [(FV.int .u8 (((UInt8.toNat b15) : Nat) : Int))]) (Array.toList (ByteArray.data s))))))] [] (TV.tup [(false, [(AV.fz (FV.sl 1 es3))]), (false, [(AV.fz (FV.int .i64 n2))]), (false, [(AV.fz (FV.int .i64 n3))])]) []) ∧ (∃ b16 : Bool, ((Fn Tryz.prog 49 [(TV.one (AV.fz (FV.str s))), (TV.one (AV.fz (FV.str (ByteArray.mk #[43]))))] [] (TV.one (AV.fz (FV.bool b16))) []) ∧ (((b16 = true) → (((((ByteArray.toList s) == (ByteArray.toList (ByteArray.mk #[]))) = true) → (R (TV.tup [(true, [(AV.fz (FV.int .i64 0)), (AV.fz (FV.str (ByteArray.mk #[]))), (AV.fz (FV.bool false)), (AV.fz (FV.sl 1 ([] : List (List FV)))), (AV.fz (FV.sl 6 ([] : List (List FV)))), (AV.fz (FV.int .i64 0))]), (false, [(AV.fz (FV.bool false))])]) [])) ∧ ((((ByteArray.toList s) == (ByteArray.toList (ByteArray.mk #[]))) = false) → (((((ByteArray.toList s) == (ByteArray.toList (ByteArray.mk #[46]))) = true) → (R (TV.tup [(true, [(AV.fz (FV.int .i64 0)), (AV.fz (FV.str (ByteArray.mk #[]))), (AV.fz (FV.bool false)), (AV.fz (FV.sl 1 ([] : List (List FV)))), (AV.fz (FV.sl 6 ([] : List (List FV)))), (AV.fz (FV.int .i64 0))]), (false, [(AV.fz (FV.bool false))])]) [])) ∧ ((((ByteArray.toList s) == (ByteArray.toList (ByteArray.mk #[46]))) = false) → ((((decide ((64 : Int) < (((ByteArray.size s) : Nat) : Int))) = true) → (R (TV.tup [(true, [(AV.fz (FV.int .i64 0)), (AV.fz (FV.str (ByteArray.mk #[]))), (AV.fz (FV.bool false)), (AV.fz (FV.sl 1 ([] : List (List FV)))), (AV.fz (FV.sl 6 ([] : List (List FV)))), (AV.fz (FV.int .i64 0))]), (false, [(AV.fz (FV.bool false))])]) [])) ∧ (((decide ((64 : Int) < (((ByteArray.size s) : Nat) : Int))) = false) → ((((n3 != 0) = true) → (R (TV.tup [(true, [(AV.fz (FV.int .i64 0)), (AV.fz (FV.str (ByteArray.mk #[]))), (AV.fz (FV.bool false)), (AV.fz (FV.sl 1 ([] : List (List FV)))), (AV.fz (FV.sl 6 ([] : List (List FV)))), (AV.fz (FV.int .i64 0))]), (false, [(AV.fz (FV.bool false))])]) [])) ∧ (((n3 != 0) = false) → (∃ b17 : Bool, ((Fn Tryz.prog 50 [(TV.one (AV.fz (FV.sl 1 es3))), (TV.one (AV.fz (FV.fn 51 [])))] [] (TV.one (AV.fz (FV.bool b17))) []) ∧ (((b17 = true) → (R (TV.tup [(true, [(AV.fz (FV.int .i64 0)), (AV.fz (FV.str (ByteArray.mk #[]))), (AV.fz (FV.bool false)), (AV.fz (FV.sl 1 ([] : List (List FV)))), (AV.fz (FV.sl 6 ([] : List (List FV)))), (AV.fz (FV.int .i64 0))]), (false, [(AV.fz (FV.bool false))])]) [])) ∧ ((b17 = false) → (((0 : Int) ≤ 0) ∧ (∃ c2 : UInt8, ((((ByteArray.data s))[(Int.toNat 0)]? = (some c2)) ∧ (((((((UInt8.toNat c2) : Nat) : Int) == 35) = true) → (R (TV.tup [(true, [(AV.fz (FV.int .i64 0)), (AV.fz (FV.str (ByteArray.mk #[]))), (AV.fz (FV.bool false)), (AV.fz (FV.sl 1 ([] : List (List FV)))), (AV.fz (FV.sl 6 ([] : List (List FV)))), (AV.fz (FV.int .i64 0))]), (false, [(AV.fz (FV.bool false))])]) [])) ∧ ((((((UInt8.toNat c2) : Nat) : Int) == 35) = false) → (∃ b18 : Bool, ((Fn Tryz.prog 52 [(TV.one (AV.fz (FV.str s))), (TV.one (AV.fz (FV.int .i64 0)))] [] (TV.one (AV.fz (FV.bool b18))) []) ∧ (((b18 = true) → (R (TV.tup [(true, [(AV.fz (FV.int .i64 0)), (AV.fz (FV.str (ByteArray.mk #[]))), (AV.fz (FV.bool false)), (AV.fz (FV.sl 1 ([] : List (List FV)))), (AV.fz (FV.sl 6 ([] : List (List FV)))), (AV.fz (FV.int .i64 0))]), (false, [(AV.fz (FV.bool false))])]) [])) ∧ ((b18 = false) → (∃ b19 : Bool, ((Fn Tryz.prog 52 [(TV.one (AV.fz (FV.str s))), (TV.one (AV.fz (FV.int .i64 1)))] [] (TV.one (AV.fz (FV.bool b19))) []) ∧ (((b19 = true) → (R (TV.tup [(true, [(AV.fz (FV.int .i64 0)), (AV.fz (FV.str (ByteArray.mk #[]))), (AV.fz (FV.bool false)), (AV.fz (FV.sl 1 ([] : List (List FV)))), (AV.fz (FV.sl 6 ([] : List (List FV)))), (AV.fz (FV.int .i64 0))]), (false, [(AV.fz (FV.bool false))])]) [])) ∧ ((b19 = false) → (R (TV.tup [(true, [(AV.fz (FV.int .i64 4)), (AV.fz (FV.str s)), (AV.fz (FV.bool false)), (AV.fz (FV.sl 1 ([] : List (List FV)))), (AV.fz (FV.sl 6 ([] : List (List FV)))), (AV.fz (FV.int .i64 0))]), (false, [(AV.fz (FV.bool true))])]) []))))))))))))))))))))))))))) ∧ ((b16 = false) → (∃ b20 : Bool, ((Fn Tryz.prog 49 [(TV.one (AV.fz (FV.str s))), (TV.one (AV.fz (FV.str (ByteArray.mk #[45]))))] [] (TV.one (AV.fz (FV.bool b20))) []) ∧ (((((ByteArray.toList s) == (ByteArray.toList (ByteArray.mk #[]))) = true) → (R (TV.tup [(true, [(AV.fz (FV.int .i64 0)), (AV.fz (FV.str (ByteArray.mk #[]))), (AV.fz (FV.bool false)), (AV.fz (FV.sl 1 ([] : List (List FV)))), (AV.fz (FV.sl 6 ([] : List (List FV)))), (AV.fz (FV.int .i64 0))]), (false, [(AV.fz (FV.bool false))])]) [])) ∧ ((((ByteArray.toList s) == (ByteArray.toList (ByteArray.mk #[]))) = false) → (((((ByteArray.toList s) == (ByteArray.toList (ByteArray.mk #[46]))) = true) → (R (TV.tup [(true, [(AV.fz (FV.int .i64 0)), (AV.fz (FV.str (ByteArray.mk #[]))), (AV.fz (FV.bool false)), (AV.fz (FV.sl 1 ([] : List (List FV)))), (AV.fz (FV.sl 6 ([] : List (List FV)))), (AV.fz (FV.int .i64 0))]), (false, [(AV.fz (FV.bool false))])]) [])) ∧ ((((ByteArray.toList s) == (ByteArray.toList (ByteArray.mk #[46]))) = false) → ((((decide ((64 : Int) < (((ByteArray.size s) : Nat) : Int))) = true) → (R (TV.tup [(true, [(AV.fz (FV.int .i64 0)), (AV.fz (FV.str (ByteArray.mk #[]))), (AV.fz (FV.bool false)), (AV.fz (FV.sl 1 ([] : List (List FV)))), (AV.fz (FV.sl 6 ([] : List (List FV)))), (AV.fz (FV.int .i64 0))]), (false, [(AV.fz (FV.bool false))])]) [])) ∧ (((decide ((64 : Int) < (((ByteArray.size s) : Nat) : Int))) = false) → ((((n3 != 0) = true) → (R (TV.tup [(true, [(AV.fz (FV.int .i64 0)), (AV.fz (FV.str (ByteArray.mk #[]))), (AV.fz (FV.bool false)), (AV.fz (FV.sl 1 ([] : List (List FV)))), (AV.fz (FV.sl 6 ([] : List (List FV)))), (AV.fz (FV.int .i64 0))]), (false, [(AV.fz (FV.bool false))])]) [])) ∧ (((n3 != 0) = false) → (∃ b21 : Bool, ((Fn Tryz.prog 50 [(TV.one (AV.fz (FV.sl 1 es3))), (TV.one (AV.fz (FV.fn 51 [])))] [] (TV.one (AV.fz (FV.bool b21))) []) ∧ (((b21 = true) → (R (TV.tup [(true, [(AV.fz (FV.int .i64 0)), (AV.fz (FV.str (ByteArray.mk #[]))), (AV.fz (FV.bool false)), (AV.fz (FV.sl 1 ([] : List (List FV)))), (AV.fz (FV.sl 6 ([] : List (List FV)))), (AV.fz (FV.int .i64 0))]), (false, [(AV.fz (FV.bool false))])]) [])) ∧ ((b21 = false) → (((0 : Int) ≤ 0) ∧ (∃ c3 : UInt8, ((((ByteArray.data s))[(Int.toNat 0)]? = (some c3)) ∧ (((((((UInt8.toNat c3) : Nat) : Int) == 35) = true) → (R (TV.tup [(true, [(AV.fz (FV.int .i64 0)), (AV.fz (FV.str (ByteArray.mk #[]))), (AV.fz (FV.bool false)), (AV.fz (FV.sl 1 ([] : List (List FV)))), (AV.fz (FV.sl 6 ([] : List (List FV)))), (AV.fz (FV.int .i64 0))]), (false, [(AV.fz (FV.bool false))])]) [])) ∧ ((((((UInt8.toNat c3) : Nat) : Int) == 35) = false) → (∃ b22 : Bool, ((Fn Tryz.prog 52 [(TV.one (AV.fz (FV.str s))), (TV.one (AV.fz (FV.int .i64 0)))] [] (TV.one (AV.fz (FV.bool b22))) []) ∧ (((b22 = true) → (R (TV.tup [(true, [(AV.fz (FV.int .i64 0)), (AV.fz (FV.str (ByteArray.mk #[]))), (AV.fz (FV.bool false)), (AV.fz (FV.sl 1 ([] : List (List FV)))), (AV.fz (FV.sl 6 ([] : List (List FV)))), (AV.fz (FV.int .i64 0))]), (false, [(AV.fz (FV.bool false))])]) [])) ∧ ((b22 = false) → (((b20 = true) → (∃ b23 : Bool, ((Fn Tryz.prog 52 [(TV.one (AV.fz (FV.str s))), (TV.one (AV.fz (FV.int .i64 1)))] [] (TV.one (AV.fz (FV.bool b23))) []) ∧ (((b23 = true) → (R (TV.tup [(true, [(AV.fz (FV.int .i64 0)), (AV.fz (FV.str (ByteArray.mk #[]))), (AV.fz (FV.bool false)), (AV.fz (FV.sl 1 ([] : List (List FV)))), (AV.fz (FV.sl 6 ([] : List (List FV)))), (AV.fz (FV.int .i64 0))]), (false, [(AV.fz (FV.bool false))])]) [])) ∧ ((b23 = false) → (R (TV.tup [(true, [(AV.fz (FV.int .i64 4)), (AV.fz (FV.str s)), (AV.fz (FV.bool false)), (AV.fz (FV.sl 1 ([] : List (List FV)))), (AV.fz (FV.sl 6 ([] : List (List FV)))), (AV.fz (FV.int .i64 0))]), (false, [(AV.fz (FV.bool true))])]) [])))))) ∧ ((b20 = false) → (R (TV.tup [(true, [(AV.fz (FV.int .i64 4)), (AV.fz (FV.str s)), (AV.fz (FV.bool false)), (AV.fz (FV.sl 1 ([] : List (List FV)))), (AV.fz (FV.sl 6 ([] : List (List FV)))), (AV.fz (FV.int .i64 0))]), (false, [(AV.fz (FV.bool true))])]) []))))))))))))))))))))))))))))))))))))))))))))))))
theorem token_Atom_fn (s : ByteArray) {r : TV} {h : List Ob} (H : token_Atom_H (fun r' h' => r' = r ∧ h' = h) s) : Fn Tryz.prog 15 [(TV.one (AV.fz (FV.str s)))] [] r h :=
  Fn.by_tr (M := (modeOf [] [])) (lv := token_Atom_lv) (own := none) (F := Tryz.f15) (by kernel_rfl) (by kernel_rfl) (by first | decide | simp) (fun _ _ h => h) (by kernel_rfl) H
def token_digit_lv : List Nat → Keep := lvOf []
def token_digit_H (R : TV → List Ob → Prop) (s : ByteArray) (at_ : Int) : Prop :=
  ((((decide (at_ < (((ByteArray.size s) : Nat) : Int))) = true) → (((0 : Int) ≤ at_) ∧ (∃ c2 : UInt8, ((((ByteArray.data s))[(Int.toNat at_)]? = (some c2)) ∧ ((((decide ((48 : Int) ≤ (((UInt8.toNat c2) : Nat) : Int))) = true) → (((0 : Int) ≤ at_) ∧ (∃ c3 : UInt8, ((((ByteArray.data s))[(Int.toNat at_)]? = (some c3)) ∧ (R (TV.one (AV.fz (FV.bool (decide ((((UInt8.toNat c3) : Nat) : Int) ≤ 57))))) []))))) ∧ (((decide ((48 : Int) ≤ (((UInt8.toNat c2) : Nat) : Int))) = false) → (R (TV.one (AV.fz (FV.bool false))) []))))))) ∧ (((decide (at_ < (((ByteArray.size s) : Nat) : Int))) = false) → (R (TV.one (AV.fz (FV.bool false))) [])))
theorem token_digit_fn (s : ByteArray) (at_ : Int) {r : TV} {h : List Ob} (H : token_digit_H (fun r' h' => r' = r ∧ h' = h) s at_) : Fn Tryz.prog 52 [(TV.one (AV.fz (FV.str s))), (TV.one (AV.fz (FV.int .i64 at_)))] [] r h :=
  Fn.by_tr (M := (modeOf [] [])) (lv := token_digit_lv) (own := none) (F := Tryz.f52) (by kernel_rfl) (by kernel_rfl) (by first | decide | simp) (fun _ _ h => h) (by kernel_rfl) H
def utf_Decode_lv : List Nat → Keep := lvOf [([0, 0, 1, 1], ⟨13, 0, [], false, false⟩)]
def utf_Decode_S0 (b : List (List FV)) (at_ : Int) (o : List (List FV)) : St := (St.mk [(TV.one (AV.fz (FV.sl 1 b))), TV.und, (TV.one (AV.ofl 1 0)), (TV.one (AV.fz (FV.int .i64 at_))), TV.und, TV.und, TV.und, TV.und, TV.und, TV.und, TV.und, TV.und, TV.und, TV.und, TV.und, TV.und, TV.und, TV.und, TV.und, TV.und, TV.und, TV.und, TV.und, TV.und, TV.und, TV.und, TV.und, TV.und, TV.und, TV.und, TV.und, TV.und, TV.und, TV.und, TV.und, TV.und, TV.und] [(Ob.f 0 1 o)])
def utf_Decode_L0 (R : TV → List Ob → Prop) (b : List (List FV)) (at_ : Int) (o : List (List FV)) : Prop := LoopAt Tryz.prog (modeOf [] []) utf_Decode_lv Tryz.f48 none R [1, 1, 0, 0] (utf_Decode_S0 b at_ o)
def utf_Decode_R0 (R : TV → List Ob → Prop) (b : List (List FV)) (at_ : Int) (o : List (List FV)) : Prop :=
  ((((decide (at_ < (((List.length b) : Nat) : Int))) = true) → ((((0 : Int) ≤ at_) ∧ (at_ ≤ (((List.length b) : Nat) : Int))) ∧ (∃ n4 : Int, (∃ n5 : Int, ((Fn Tryz.prog 87 [(TV.one (AV.fz (FV.sl 1 (List.drop (Int.toNat at_) b))))] [] (TV.tup [(false, [(AV.fz (FV.int .i32 n4))]), (false, [(AV.fz (FV.int .i64 n5))])]) []) ∧ ((((n4 == 65533) = true) → ((((decide (n5 < 2)) = true) → (R (TV.tup [(false, [(AV.fz (FV.sl 1 ([] : List (List FV))))]), (false, [(AV.fz (FV.int .i64 at_))]), (false, [(AV.fz (FV.int .i64 4))])]) [])) ∧ (((decide (n5 < 2)) = false) → (((((List.length o) + (List.length [[(FV.int .i64 (IntKind.wrap .i64 n4))]])) * 8) ≤ 220000000000000) ∧ (utf_Decode_L0 R b (IntKind.wrap .i64 (at_ + n5)) (o ++ [[(FV.int .i64 (IntKind.wrap .i64 n4))]])))))) ∧ (((n4 == 65533) = false) → (((((List.length o) + (List.length [[(FV.int .i64 (IntKind.wrap .i64 n4))]])) * 8) ≤ 220000000000000) ∧ (utf_Decode_L0 R b (IntKind.wrap .i64 (at_ + n5)) (o ++ [[(FV.int .i64 (IntKind.wrap .i64 n4))]])))))))))) ∧ (((decide (at_ < (((List.length b) : Nat) : Int))) = false) → (R (TV.tup [(false, [(AV.fz (FV.sl 1 o))]), (false, [(AV.fz (FV.int .i64 0))]), (false, [(AV.fz (FV.int .i64 0))])]) [])))
theorem utf_Decode_l0 {R : TV → List Ob → Prop} {b : List (List FV)} {at_ : Int} {o : List (List FV)} (h : utf_Decode_R0 R b at_ o) : utf_Decode_L0 R b at_ o :=
  LoopAt.by_tr (by kernel_rfl) (by kernel_rfl) h
def utf_Decode_H (R : TV → List Ob → Prop) (b : List (List FV)) : Prop :=
  ((((decide ((65536 : Int) < (((List.length b) : Nat) : Int))) = true) → (R (TV.tup [(false, [(AV.fz (FV.sl 1 ([] : List (List FV))))]), (false, [(AV.fz (FV.int .i64 0))]), (false, [(AV.fz (FV.int .i64 6))])]) [])) ∧ (((decide ((65536 : Int) < (((List.length b) : Nat) : Int))) = false) → (utf_Decode_L0 R b 0 ([] : List (List FV)))))
theorem utf_Decode_fn (b : List (List FV)) {r : TV} {h : List Ob} (H : utf_Decode_H (fun r' h' => r' = r ∧ h' = h) b) : Fn Tryz.prog 48 [(TV.one (AV.fz (FV.sl 1 b)))] [] r h :=
  Fn.by_tr (M := (modeOf [] [])) (lv := utf_Decode_lv) (own := none) (F := Tryz.f48) (by kernel_rfl) (by kernel_rfl) (by first | decide | simp) (fun _ _ h => h) (by kernel_rfl) H
def utf_Ends_lv : List Nat → Keep := lvOf []
def utf_Ends_H (R : TV → List Ob → Prop) (c : Int) : Prop :=
  (∃ b1 : Bool, ((Fn Tryz.prog 77 [(TV.one (AV.fz (FV.int .i64 c)))] [] (TV.one (AV.fz (FV.bool b1))) []) ∧ (((b1 = true) → (R (TV.one (AV.fz (FV.bool true))) [])) ∧ ((b1 = false) → ((((decide ((0 : Int) < c)) = true) → ((((decide (c < 128)) = true) → (∃ n1 : Int, ((Fn Tryz.prog 89 [(TV.one (AV.fz (FV.str (ByteArray.mk #[40, 41, 59, 34, 39, 96, 44])))), (TV.one (AV.fz (FV.int .u8 (IntKind.wrap .u8 c))))] [] (TV.one (AV.fz (FV.int .i64 n1))) []) ∧ (R (TV.one (AV.fz (FV.bool (decide ((0 : Int) ≤ n1))))) [])))) ∧ (((decide (c < 128)) = false) → (R (TV.one (AV.fz (FV.bool false))) [])))) ∧ (((decide ((0 : Int) < c)) = false) → (R (TV.one (AV.fz (FV.bool false))) [])))))))
theorem utf_Ends_fn (c : Int) {r : TV} {h : List Ob} (H : utf_Ends_H (fun r' h' => r' = r ∧ h' = h) c) : Fn Tryz.prog 51 [(TV.one (AV.fz (FV.int .i64 c)))] [] r h :=
  Fn.by_tr (M := (modeOf [] [])) (lv := utf_Ends_lv) (own := none) (F := Tryz.f51) (by kernel_rfl) (by kernel_rfl) (by first | decide | simp) (fun _ _ h => h) (by kernel_rfl) H
def utf_Blank_lv : List Nat → Keep := lvOf []
def utf_Blank_H (R : TV → List Ob → Prop) (c : Int) : Prop :=
  ((((c == 9) = true) → (R (TV.one (AV.fz (FV.bool true))) [])) ∧ (((c == 9) = false) → ((((c == 10) = true) → (R (TV.one (AV.fz (FV.bool true))) [])) ∧ (((c == 10) = false) → ((((c == 13) = true) → (R (TV.one (AV.fz (FV.bool true))) [])) ∧ (((c == 13) = false) → (R (TV.one (AV.fz (FV.bool (c == 32)))) [])))))))
theorem utf_Blank_fn (c : Int) {r : TV} {h : List Ob} (H : utf_Blank_H (fun r' h' => r' = r ∧ h' = h) c) : Fn Tryz.prog 77 [(TV.one (AV.fz (FV.int .i64 c)))] [] r h :=
  Fn.by_tr (M := (modeOf [] [])) (lv := utf_Blank_lv) (own := none) (F := Tryz.f77) (by kernel_rfl) (by kernel_rfl) (by first | decide | simp) (fun _ _ h => h) (by kernel_rfl) H
end Go.Proofs.YtejefchehdifhaaGreatDoor.Ev
end
