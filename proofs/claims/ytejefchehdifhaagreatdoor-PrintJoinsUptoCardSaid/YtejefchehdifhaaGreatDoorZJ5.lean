/-
  Part of a claim: definitions and lemmas that its theorem leans on, packed by wip/tools/pack.py.
-/
import Derived.Test.YtejefchehdifhaaGreatDoorZJ4
import Derived.Test.YtejefchehdifhaaGreatDoorTie
import Derived.Test.YtejefchehdifhaaGreatDoorCards
import Derived.ProofKit
import Derived.ShutString
import Derived.Lay
import Derived.Stop.Joined
import Derived.SevenTiedAt
set_option linter.unusedVariables false
set_option linter.unusedSimpArgs false
section
set_option linter.unusedVariables false
set_option linter.unusedSimpArgs false
namespace Go.Proofs.YtejefchehdifhaaGreatDoor.Ev
open Go
theorem txt_1 (t : ByteArray) (n : Bool) (l : List Int) (ds : List Dt) (a : Int) : Dt.txt (.mk 1 t n l ds a) = 40 :: Dt.txts false true ds := by
  conv => lhs; unfold Dt.txt
  rfl
theorem txt_2 (t : ByteArray) (n : Bool) (l : List Int) (ds : List Dt) (a : Int) : Dt.txt (.mk 2 t n l ds a) = 40 :: Dt.txts true true ds := by
  conv => lhs; unfold Dt.txt
  rfl
theorem txt_3 (t : ByteArray) (n : Bool) (l : List Int) (ds : List Dt) (a : Int) : Dt.txt (.mk 3 t n l ds a) = 35 :: 40 :: Dt.txts false true ds := by
  conv => lhs; unfold Dt.txt
  rfl
theorem txt_4 (t : ByteArray) (n : Bool) (l : List Int) (ds : List Dt) (a : Int) : Dt.txt (.mk 4 t n l ds a) = bs t := by
  conv => lhs; unfold Dt.txt
  rfl
theorem txt_5 (t : ByteArray) (n : Bool) (l : List Int) (ds : List Dt) (a : Int) : Dt.txt (.mk 5 t n l ds a) = quoV (bs t) := by
  conv => lhs; unfold Dt.txt
  rfl
theorem txt_6 (t : ByteArray) (n : Bool) (l : List Int) (ds : List Dt) (a : Int) : Dt.txt (.mk 6 t n l ds a) = [35, 92] ++ nameL (deR (bs t)) := by
  conv => lhs; unfold Dt.txt
  rfl
theorem txt_7 (t : ByteArray) (n : Bool) (l : List Int) (ds : List Dt) (a : Int) : Dt.txt (.mk 7 t n l ds a) = numT n l := by
  conv => lhs; unfold Dt.txt
  rfl
theorem txt_8 (t : ByteArray) (n : Bool) (l : List Int) (ds : List Dt) (a : Int) : Dt.txt (.mk 8 t n l ds a) = [35, 116] := by
  conv => lhs; unfold Dt.txt
  rfl
theorem txt_9 (t : ByteArray) (n : Bool) (l : List Int) (ds : List Dt) (a : Int) : Dt.txt (.mk 9 t n l ds a) = [35, 102] := by
  conv => lhs; unfold Dt.txt
  rfl
theorem txt_10 (t : ByteArray) (n : Bool) (l : List Int) (ds : List Dt) (a : Int) : Dt.txt (.mk 10 t n l ds a) = [35, 60, 118, 111, 105, 100, 62] := by
  conv => lhs; unfold Dt.txt
  rfl
theorem txt_11 (t : ByteArray) (n : Bool) (l : List Int) (ds : List Dt) (a : Int) : Dt.txt (.mk 11 t n l ds a) = [35, 60] ++ bs t ++ [62] := by
  conv => lhs; unfold Dt.txt
  rfl
theorem small3 : Bytes [35, 116] ∧ Bytes [35, 102] ∧ Bytes [35, 60, 118, 111, 105, 100, 62] := by
  refine ⟨?_, ?_, ?_⟩ <;> (intro x hx; simp at hx; omega)
abbrev pUr (es : List (List FV)) : List Ob := [.g 90 [.ptr 0 0 0 0, .ofl 1 1], .f 5 1 es]
abbrev pVr (es : List (List FV)) : List Ob := [.g 90 [.ptr 0 0 0 0, .ofl 1 2], .no, .f 5 1 es]
theorem prU_leafs (k : Int) (t : ByteArray) (n : Bool) (l : List Int) (ds : List Dt) (a : Int) (out : List Int) (hok : Dt.ok (.mk k t n l ds a)) (hf : Dt.fit (.mk k t n l ds a)) (hall : ∀ x ∈ ds, DatU x) (ho : out.length + (Dt.txt (.mk k t n l ds a)).length ≤ 98000000) :
    Fn Tryz.prog 58 [p1, fzD (.mk k t n l ds a)] (pU out) (.tup []) (pV (out ++ (Dt.mk k t n l ds a).txt)) := by
  unfold Dt.ok at hok
  unfold Dt.fit at hf
  obtain ⟨hk, ht, hu, hl, hdl, hds, ha⟩ := hok
  obtain ⟨f1, f6, f7, f4, ff⟩ := hf
  obtain ⟨T, hT, rfl⟩ : ∃ T, Bytes T ∧ t = bytesOf T := ⟨bs t, bs_bytes t, (of_bs t).symm⟩
  rw [size_of] at ht
  rw [bs_of hT] at f6 f4
  refine prU_datum_fn _ _ _ _ _ _ _ ?_
  obtain ⟨R, hR, hRe⟩ : ∃ R : TV → List Ob → Prop, R (.tup []) (pV (out ++ (Dt.mk k (bytesOf T) n l ds a).txt)) ∧ (fun r' h' => r' = (.tup []) ∧ Wk h' (pV (out ++ (Dt.mk k (bytesOf T) n l ds a).txt))) = R := ⟨_, ⟨rfl, Wk.refl _⟩, rfl⟩
  rw [hRe]; clear hRe
  unfold prU_datum_H
  simp only [beq_t, beq_f]
  have ws : ∀ (X : List Int), Bytes X → out ++ X = out ++ (Dt.mk k (bytesOf T) n l ds a).txt → ∃ es : List (List FV), ∃ m : Int, (Fn Tryz.prog 65 [p1, .one (.fz (.str (bytesOf X)))] (pU out) (.tup [(false, [.fz (.int .i64 m)]), (false, [.fz (.ifc false)])]) (pVr es)) ∧ R (.tup []) (pVr es) := fun X hX e => by
    have hl := congrArg List.length e
    simp only [List.length_append] at hl
    refine ⟨_, _, wsU X out hX (by omega) (by omega), ?_⟩
    rw [e]; exact hR
  refine ⟨fun h => ?_, fun c1 => ⟨fun h => ?_, fun c2 => ⟨fun h => ?_, fun c3 => ⟨fun h => ?_, fun c4 => ⟨fun h => ?_, fun c5 => ⟨fun h => ?_, fun c6 => ⟨fun h => ?_, fun c7 => ⟨fun h => ?_, fun c8 => ⟨fun h => ?_, fun c9 => ⟨fun h => ?_, fun c10 => ?_⟩⟩⟩⟩⟩⟩⟩⟩⟩⟩
  · subst h
    rw [txt_1] at hR ho
    exact ⟨_, prU_list_ok ds false out hdl hall (by simp only [List.length_cons] at ho; omega), hR⟩
  · subst h
    rw [txt_2] at hR ho
    exact ⟨_, prU_list_ok ds true out hdl hall (by simp only [List.length_cons] at ho; omega), hR⟩
  · subst h
    rw [txt_3] at hR ho
    simp only [List.length_cons] at ho
    have hl := prU_list_ok ds false (out ++ [35]) hdl hall (by simp only [List.length_append, List.length_cons, List.length_nil]; omega)
    refine ⟨_, wbU 35 out (by omega), _, hl, ?_⟩
    have e : (out ++ [35]) ++ (40 :: Dt.txts false true ds) = out ++ (35 :: 40 :: Dt.txts false true ds) := by simp
    rw [e]; exact hR
  · subst h
    exact ws T hT (by rw [txt_4, bs_of hT])
  · subst h
    exact ⟨_, pQuoted_ok T hT (by omega), ws _ (quoV_bytes hT).1 (by rw [txt_5, bs_of hT])⟩
  · subst h
    obtain ⟨c, hc, e⟩ := f6 rfl
    have hsc := deR_scal hc e
    obtain ⟨s0, s1, _⟩ := scal_in hsc
    obtain ⟨n1, n2⟩ := nameL_bytes hsc
    refine ⟨_, _, DecodeInString_fn T, ?_⟩
    rw [w64 (n := deR T) (by omega) (by omega), show ByteArray.mk #[35, 92] = bytesOf [35, 92] from by decide +kernel]
    refine ⟨_, _, uName_ok _ hsc, by rw [size_of, size_of]; simp only [List.length_cons, List.length_nil]; omega, ?_⟩
    rw [app_of]
    exact ws _ (Bytes.append (by intro x hx; simp at hx; omega) n1) (by rw [txt_6, bs_of hT])
  · subst h
    have hs := f7 rfl
    have hl64 : l.length ≤ 64 := by
      unfold sndB at hs
      simp only [Bool.and_eq_true, decide_eq_true_eq] at hs
      exact hs.1.1
    exact ⟨_, text_ok n l hu (by omega), ws _ (numT_bytes n l) (by rw [txt_7])⟩
  · subst h
    rw [show ByteArray.mk #[35, 116] = bytesOf [35, 116] from by decide +kernel]
    exact ws _ small3.1 (by rw [txt_8])
  · subst h
    rw [show ByteArray.mk #[35, 102] = bytesOf [35, 102] from by decide +kernel]
    exact ws _ small3.2.1 (by rw [txt_9])
  · subst h
    rw [show ByteArray.mk #[35, 60, 118, 111, 105, 100, 62] = bytesOf [35, 60, 118, 111, 105, 100, 62] from by decide +kernel]
    exact ws _ small3.2.2 (by rw [txt_10])
  · obtain rfl : k = 11 := by omega
    rw [show ByteArray.mk #[35, 60] = bytesOf [35, 60] from by decide +kernel, show ByteArray.mk #[62] = bytesOf [62] from by decide +kernel, app_of, app_of]
    refine ⟨by rw [size_of, size_of]; simp only [List.length_cons, List.length_nil]; omega, by rw [size_of, size_of]; simp only [List.length_append, List.length_cons, List.length_nil]; omega, ?_⟩
    exact ws _ (Bytes.append (Bytes.append (by intro x hx; simp at hx; omega) hT) (by intro x hx; simp at hx; omega)) (by rw [txt_11, bs_of hT])
theorem prF_leafs (k : Int) (t : ByteArray) (n : Bool) (l : List Int) (ds : List Dt) (a : Int) (hok : Dt.ok (.mk k t n l ds a)) (hf : Dt.fit (.mk k t n l ds a)) (hall : ∀ x ∈ ds, DatU x) (ho : (Dt.txt (.mk k t n l ds a)).length ≤ 98000000) :
    Fn Tryz.prog 58 [p1, fzD (.mk k t n l ds a)] pF (.tup []) (pU ((Dt.mk k t n l ds a).txt)) := by
  unfold Dt.ok at hok
  unfold Dt.fit at hf
  obtain ⟨hk, ht, hu, hl, hdl, hds, ha⟩ := hok
  obtain ⟨f1, f6, f7, f4, ff⟩ := hf
  obtain ⟨T, hT, rfl⟩ : ∃ T, Bytes T ∧ t = bytesOf T := ⟨bs t, bs_bytes t, (of_bs t).symm⟩
  rw [size_of] at ht
  rw [bs_of hT] at f6 f4
  refine prF_datum_fn _ _ _ _ _ _ ?_
  obtain ⟨R, hR, hRe⟩ : ∃ R : TV → List Ob → Prop, R (.tup []) (pU ((Dt.mk k (bytesOf T) n l ds a).txt)) ∧ (fun r' h' => r' = (.tup []) ∧ Wk h' (pU ((Dt.mk k (bytesOf T) n l ds a).txt))) = R := ⟨_, ⟨rfl, Wk.refl _⟩, rfl⟩
  rw [hRe]; clear hRe
  unfold prF_datum_H
  simp only [beq_t, beq_f]
  have ws : ∀ (X : List Int), Bytes X → X = (Dt.mk k (bytesOf T) n l ds a).txt → ∃ es : List (List FV), ∃ m : Int, (Fn Tryz.prog 65 [p1, .one (.fz (.str (bytesOf X)))] pF (.tup [(false, [.fz (.int .i64 m)]), (false, [.fz (.ifc false)])]) (pUr es)) ∧ R (.tup []) (pUr es) := fun X hX e => by
    have hl := congrArg List.length e
    skip
    refine ⟨_, _, wsF X hX (by omega), ?_⟩
    rw [e]; exact hR
  refine ⟨fun h => ?_, fun c1 => ⟨fun h => ?_, fun c2 => ⟨fun h => ?_, fun c3 => ⟨fun h => ?_, fun c4 => ⟨fun h => ?_, fun c5 => ⟨fun h => ?_, fun c6 => ⟨fun h => ?_, fun c7 => ⟨fun h => ?_, fun c8 => ⟨fun h => ?_, fun c9 => ⟨fun h => ?_, fun c10 => ?_⟩⟩⟩⟩⟩⟩⟩⟩⟩⟩
  · subst h
    rw [txt_1] at hR ho
    exact ⟨_, prF_list_ok ds false hdl hall (by simp only [List.length_cons] at ho; omega), hR⟩
  · subst h
    rw [txt_2] at hR ho
    exact ⟨_, prF_list_ok ds true hdl hall (by simp only [List.length_cons] at ho; omega), hR⟩
  · subst h
    rw [txt_3] at hR ho
    simp only [List.length_cons] at ho
    have hl := prU_list_ok ds false ([35]) hdl hall (by simp only [List.length_append, List.length_cons, List.length_nil]; omega)
    refine ⟨_, wbF 35, _, hl, ?_⟩
    have e : ([35]) ++ (40 :: Dt.txts false true ds) = (35 :: 40 :: Dt.txts false true ds) := by simp
    rw [e]; exact hR
  · subst h
    exact ws T hT (by rw [txt_4, bs_of hT])
  · subst h
    exact ⟨_, pQuoted_ok T hT (by omega), ws _ (quoV_bytes hT).1 (by rw [txt_5, bs_of hT])⟩
  · subst h
    obtain ⟨c, hc, e⟩ := f6 rfl
    have hsc := deR_scal hc e
    obtain ⟨s0, s1, _⟩ := scal_in hsc
    obtain ⟨n1, n2⟩ := nameL_bytes hsc
    refine ⟨_, _, DecodeInString_fn T, ?_⟩
    rw [w64 (n := deR T) (by omega) (by omega), show ByteArray.mk #[35, 92] = bytesOf [35, 92] from by decide +kernel]
    refine ⟨_, _, uName_ok _ hsc, by rw [size_of, size_of]; simp only [List.length_cons, List.length_nil]; omega, ?_⟩
    rw [app_of]
    exact ws _ (Bytes.append (by intro x hx; simp at hx; omega) n1) (by rw [txt_6, bs_of hT])
  · subst h
    have hs := f7 rfl
    have hl64 : l.length ≤ 64 := by
      unfold sndB at hs
      simp only [Bool.and_eq_true, decide_eq_true_eq] at hs
      exact hs.1.1
    exact ⟨_, text_ok n l hu (by omega), ws _ (numT_bytes n l) (by rw [txt_7])⟩
  · subst h
    rw [show ByteArray.mk #[35, 116] = bytesOf [35, 116] from by decide +kernel]
    exact ws _ small3.1 (by rw [txt_8])
  · subst h
    rw [show ByteArray.mk #[35, 102] = bytesOf [35, 102] from by decide +kernel]
    exact ws _ small3.2.1 (by rw [txt_9])
  · subst h
    rw [show ByteArray.mk #[35, 60, 118, 111, 105, 100, 62] = bytesOf [35, 60, 118, 111, 105, 100, 62] from by decide +kernel]
    exact ws _ small3.2.2 (by rw [txt_10])
  · obtain rfl : k = 11 := by omega
    rw [show ByteArray.mk #[35, 60] = bytesOf [35, 60] from by decide +kernel, show ByteArray.mk #[62] = bytesOf [62] from by decide +kernel, app_of, app_of]
    refine ⟨by rw [size_of, size_of]; simp only [List.length_cons, List.length_nil]; omega, by rw [size_of, size_of]; simp only [List.length_append, List.length_cons, List.length_nil]; omega, ?_⟩
    exact ws _ (Bytes.append (Bytes.append (by intro x hx; simp at hx; omega) hT) (by intro x hx; simp at hx; omega)) (by rw [txt_11, bs_of hT])
mutual
theorem prU_ok : ∀ (x : Dt), x.ok → x.fit → DatU x
  | .mk k t n l ds a, hok, hf => fun out ho => by
    have h1 := hok
    have h2 := hf
    unfold Dt.ok at h1
    unfold Dt.fit at h2
    exact prU_leafs k t n l ds a out hok hf (prU_all ds h1.2.2.2.2.2.1 h2.2.2.2.2) ho
theorem prU_all : ∀ (xs : List Dt), Dt.oks xs → Dt.fits xs → ∀ x ∈ xs, DatU x
  | [], _, _, x, h => by cases h
  | y :: ys, hok, hf, x, h => by
    unfold Dt.oks at hok
    unfold Dt.fits at hf
    have h1 := prU_ok y hok.1 hf.1
    have h2 := prU_all ys hok.2 hf.2
    rcases List.mem_cons.1 h with e | e
    · rw [e]; exact h1
    · exact h2 x e
end
theorem prF_ok (x : Dt) (hok : x.ok) (hf : x.fit) (ho : x.txt.length ≤ 98000000) : Fn Tryz.prog 58 [p1, fzD x] pF (.tup []) (pU x.txt) := by
  obtain ⟨k, t, n, l, ds, a⟩ := x
  have h1 := hok
  have h2 := hf
  unfold Dt.ok at h1
  unfold Dt.fit at h2
  exact prF_leafs k t n l ds a hok hf (prU_all ds h1.2.2.2.2.2.1 h2.2.2.2.2) ho
theorem txt_ne (x : Dt) (hok : x.ok) (hf : x.fit) : x.txt ≠ [] := by
  obtain ⟨k, t, n, l, ds, a⟩ := x
  unfold Dt.ok at hok
  obtain ⟨hk, ht, hu, _⟩ := hok
  unfold Dt.fit at hf
  obtain ⟨f1, f6, f7, f4, ff⟩ := hf
  unfold Dt.txt
  repeat' split
  · rename_i c; exact f4 c
  · unfold quoV; simp
  · simp
  · rename_i c
    unfold numT
    rw [if_pos (f7 c)]
    split
    · simp
    · rename_i c0
      have sn := (sndB_iff hu).1 (f7 c)
      have hv0 := val_nonneg (B := 1000000000) (by omega) sn.lim
      have hv : val 1000000000 l ≠ 0 := fun e => c0 (by rw [(val_zero_iff (by omega) sn.lim sn.norm).1 e]; rfl)
      intro e
      have e2 := (List.append_eq_nil_iff.1 e).2
      have : (digs 10 (val 1000000000 l).toNat).length = 0 := by rw [← tdig_len, e2]; rfl
      have := (digs_nil (B := 10) (by omega) _).1 (List.length_eq_zero_iff.1 this)
      omega
  all_goals simp
theorem printYes_ok (x : Dt) (hok : x.ok) (hs : x.snd = true) (ho : x.txt.length ≤ 98000000) : Fn Tryz.prog 20 [fzD x] [] (.tup [(false, [.fz (.str (bytesOf x.txt))]), (false, [.fz (.int .i64 0)])]) [] := by
  have h1 := readSound_ok x hok
  rw [hs] at h1
  have hf := fit_of_snd hs
  have h2 := prF_ok x hok hf ho
  have h3 := stringUP_ok x.txt (txt_ne x hok hf) (txt_good x hok hf).1 (by omega)
  obtain ⟨R, hR, hRe⟩ := exR (.tup [(false, [.fz (.str (bytesOf x.txt))]), (false, [.fz (.int .i64 0)])])
  generalize hX : x.txt = X at *
  obtain ⟨k, t, n, l, ds, a⟩ := x
  refine print_Print_fn _ _ _ _ _ _ ?_
  rw [hRe]
  unfold print_Print_H
  exact ⟨_, h1, fun h => absurd h (by decide), fun _ => ⟨_, FnC.ptr1 0 h2, _, _, h3, hR⟩⟩
end Go.Proofs.YtejefchehdifhaaGreatDoor.Ev
end
section
set_option linter.unusedVariables false
set_option maxRecDepth 100000
namespace Go.Proofs.YtejefchehdifhaaGreatDoor.Ev
open Go
def law05_answers_lv : List Nat → Keep := lvOf []
def law05_answers_H (R : TV → List Ob → Prop)  : Prop :=
  (∃ s1 : ByteArray, (∃ n1 : Int, ((Fn Tryz.prog 20 [(TV.agg [(AV.fz (FV.int .i64 1)), (AV.fz (FV.str (ByteArray.mk #[]))), (AV.fz (FV.bool false)), (AV.fz (FV.sl 1 ([] : List (List FV)))), (AV.fz (FV.sl 6 [[(FV.int .i64 4), (FV.str (ByteArray.mk #[97])), (FV.bool false), (FV.sl 1 ([] : List (List FV))), (FV.sl 6 ([] : List (List FV))), (FV.int .i64 0)]])), (AV.fz (FV.int .i64 0))])] [] (TV.tup [(false, [(AV.fz (FV.str s1))]), (false, [(AV.fz (FV.int .i64 n1))])]) []) ∧ ((((n1 == 0) = true) → (R (TV.one (AV.fz (FV.bool ((ByteArray.toList s1) == (ByteArray.toList (ByteArray.mk #[40, 97, 41])))))) [])) ∧ (((n1 == 0) = false) → (R (TV.one (AV.fz (FV.bool false))) []))))))
theorem law05_answers_fn  {r : TV} {h : List Ob} (H : law05_answers_H (fun r' h' => r' = r ∧ h' = h) ) : Fn Tryz.prog 19 [] [] r h :=
  Fn.by_tr (M := (modeOf [] [])) (lv := law05_answers_lv) (own := none) (F := Tryz.f19) (by kernel_rfl) (by kernel_rfl) (by first | decide | simp) (fun _ _ h => h) (by kernel_rfl) H
def law05_own_lv : List Nat → Keep := lvOf [([0, 1, 0, 1, 1, 1], ⟨30, 0, [], false, false⟩)]
def law05_own_S0 (d0 : Int) (d1 : ByteArray) (d2 : Bool) (d3 : List (List FV)) (d4 : List (List FV)) (d5 : Int) (i : Int) (o : List (List FV)) : St := (St.mk [TV.und, (TV.one (AV.ptr 0 0 0 0)), (TV.one (AV.ptr 1 0 0 0)), (TV.one (AV.ofl 6 2)), (TV.one (AV.fz (FV.int .i64 i))), TV.und, TV.und, TV.und, TV.und, TV.und, TV.und, TV.und, TV.und, TV.und, TV.und, TV.und, TV.und, TV.und, TV.und, TV.und, TV.und, TV.und, TV.und, TV.und, TV.und, TV.und, TV.und, TV.und, TV.und, TV.und, TV.und] [(Ob.g 39 [(AV.fz (FV.int .i64 d0)), (AV.fz (FV.str d1)), (AV.fz (FV.bool d2)), (AV.ofl 1 3), (AV.fz (FV.sl 6 d4)), (AV.fz (FV.int .i64 d5))]), (Ob.g 39 [(AV.fz (FV.int .i64 0)), (AV.fz (FV.str (ByteArray.mk #[]))), (AV.fz (FV.bool false)), (AV.ofl 1 4), (AV.ofl 6 5), (AV.fz (FV.int .i64 0))]), (Ob.f 0 6 o), (Ob.f 116 1 (([] : List (List FV)) ++ d3)), (Ob.f 0 1 ([] : List (List FV))), (Ob.f 0 6 ([] : List (List FV)))])
def law05_own_L0 (R : TV → List Ob → Prop) (d0 : Int) (d1 : ByteArray) (d2 : Bool) (d3 : List (List FV)) (d4 : List (List FV)) (d5 : Int) (i : Int) (o : List (List FV)) : Prop := LoopAt Tryz.prog (modeOf [] []) law05_own_lv Tryz.f21 none R [1, 1, 1, 0, 1, 0] (law05_own_S0 d0 d1 d2 d3 d4 d5 i o)
def law05_own_R0 (R : TV → List Ob → Prop) (d0 : Int) (d1 : ByteArray) (d2 : Bool) (d3 : List (List FV)) (d4 : List (List FV)) (d5 : Int) (i : Int) (o : List (List FV)) : Prop :=
  ((((decide (i < (((List.length d4) : Nat) : Int))) = true) → (((0 : Int) ≤ i) ∧ (∃ n8 : Int, (∃ s4 : ByteArray, (∃ b4 : Bool, (∃ es8 : List (List FV), (∃ es9 : List (List FV), (∃ n9 : Int, (((d4)[(Int.toNat i)]? = (some [(FV.int .i64 n8), (FV.str s4), (FV.bool b4), (FV.sl 1 es8), (FV.sl 6 es9), (FV.int .i64 n9)])) ∧ (∃ n10 : Int, (∃ s5 : ByteArray, (∃ b5 : Bool, (∃ es10 : List (List FV), (∃ es11 : List (List FV), (∃ n11 : Int, ((Fn Tryz.prog 21 [(TV.agg [(AV.fz (FV.int .i64 n8)), (AV.fz (FV.str s4)), (AV.fz (FV.bool b4)), (AV.fz (FV.sl 1 es8)), (AV.fz (FV.sl 6 es9)), (AV.fz (FV.int .i64 n9))])] [] (TV.agg [(AV.fz (FV.int .i64 n10)), (AV.fz (FV.str s5)), (AV.fz (FV.bool b5)), (AV.fz (FV.sl 1 es10)), (AV.fz (FV.sl 6 es11)), (AV.fz (FV.int .i64 n11))]) []) ∧ (((((List.length o) + (List.length [[(FV.int .i64 n10), (FV.str s5), (FV.bool b5), (FV.sl 1 es10), (FV.sl 6 es11), (FV.int .i64 n11)]])) * 88) ≤ 220000000000000) ∧ (law05_own_L0 R d0 d1 d2 d3 d4 d5 (IntKind.wrap .i64 (i + 1)) (o ++ [[(FV.int .i64 n10), (FV.str s5), (FV.bool b5), (FV.sl 1 es10), (FV.sl 6 es11), (FV.int .i64 n11)]]))))))))))))))))))) ∧ (((decide (i < (((List.length d4) : Nat) : Int))) = false) → (R (TV.agg [(AV.fz (FV.int .i64 d0)), (AV.fz (FV.str d1)), (AV.fz (FV.bool d2)), (AV.fz (FV.sl 1 (([] : List (List FV)) ++ d3))), (AV.fz (FV.sl 6 o)), (AV.fz (FV.int .i64 d5))]) [])))
theorem law05_own_l0 {R : TV → List Ob → Prop} {d0 : Int} {d1 : ByteArray} {d2 : Bool} {d3 : List (List FV)} {d4 : List (List FV)} {d5 : Int} {i : Int} {o : List (List FV)} (h : law05_own_R0 R d0 d1 d2 d3 d4 d5 i o) : law05_own_L0 R d0 d1 d2 d3 d4 d5 i o :=
  LoopAt.by_tr (by kernel_rfl) (by kernel_rfl) h
def law05_own_H (R : TV → List Ob → Prop) (d0 : Int) (d1 : ByteArray) (d2 : Bool) (d3 : List (List FV)) (d4 : List (List FV)) (d5 : Int) : Prop :=
  (((((List.length ([] : List (List FV))) + (List.length d3)) * 4) ≤ 220000000000000) ∧ (law05_own_L0 R d0 d1 d2 d3 d4 d5 0 ([] : List (List FV))))
theorem law05_own_fn (d0 : Int) (d1 : ByteArray) (d2 : Bool) (d3 : List (List FV)) (d4 : List (List FV)) (d5 : Int) {r : TV} {h : List Ob} (H : law05_own_H (fun r' h' => r' = r ∧ h' = h) d0 d1 d2 d3 d4 d5) : Fn Tryz.prog 21 [(TV.agg [(AV.fz (FV.int .i64 d0)), (AV.fz (FV.str d1)), (AV.fz (FV.bool d2)), (AV.fz (FV.sl 1 d3)), (AV.fz (FV.sl 6 d4)), (AV.fz (FV.int .i64 d5))])] [] r h :=
  Fn.by_tr (M := (modeOf [] [])) (lv := law05_own_lv) (own := none) (F := Tryz.f21) (by kernel_rfl) (by kernel_rfl) (by first | decide | simp) (fun _ _ h => h) (by kernel_rfl) H
def law05_light_lv : List Nat → Keep := lvOf [([0, 1, 0, 1, 1], ⟨38, 0, [], false, false⟩)]
def law05_light_S0 (d0 : Int) (d1 : ByteArray) (d2 : Bool) (d3 : List (List FV)) (d4 : List (List FV)) (d5 : Int) (depth : Int) (i : Int) : St := (St.mk [TV.und, (TV.one (AV.fz (FV.int .i64 depth))), (TV.one (AV.ptr 0 0 0 0)), TV.und, TV.und, (TV.one (AV.fz (FV.int .i64 i))), TV.und, TV.und, TV.und, TV.und, TV.und, TV.und, TV.und, TV.und, TV.und, TV.und, TV.und, TV.und, TV.und, TV.und, TV.und, TV.und, TV.und, TV.und, TV.und, TV.und, TV.und, TV.und, TV.und, TV.und] [(Ob.g 39 [(AV.fz (FV.int .i64 d0)), (AV.fz (FV.str d1)), (AV.fz (FV.bool d2)), (AV.fz (FV.sl 1 d3)), (AV.fz (FV.sl 6 d4)), (AV.fz (FV.int .i64 d5))])])
def law05_light_L0 (R : TV → List Ob → Prop) (d0 : Int) (d1 : ByteArray) (d2 : Bool) (d3 : List (List FV)) (d4 : List (List FV)) (d5 : Int) (depth : Int) (i : Int) : Prop := LoopAt Tryz.prog (modeOf [] []) law05_light_lv Tryz.f18 none R [1, 1, 0, 1, 0] (law05_light_S0 d0 d1 d2 d3 d4 d5 depth i)
def law05_light_R0 (R : TV → List Ob → Prop) (d0 : Int) (d1 : ByteArray) (d2 : Bool) (d3 : List (List FV)) (d4 : List (List FV)) (d5 : Int) (depth : Int) (i : Int) : Prop :=
  ((((decide (i < (((List.length d4) : Nat) : Int))) = true) → (((0 : Int) ≤ i) ∧ (∃ n4 : Int, (∃ s2 : ByteArray, (∃ b4 : Bool, (∃ es4 : List (List FV), (∃ es5 : List (List FV), (∃ n5 : Int, (((d4)[(Int.toNat i)]? = (some [(FV.int .i64 n4), (FV.str s2), (FV.bool b4), (FV.sl 1 es4), (FV.sl 6 es5), (FV.int .i64 n5)])) ∧ (∃ b5 : Bool, ((Fn Tryz.prog 18 [(TV.agg [(AV.fz (FV.int .i64 n4)), (AV.fz (FV.str s2)), (AV.fz (FV.bool b4)), (AV.fz (FV.sl 1 es4)), (AV.fz (FV.sl 6 es5)), (AV.fz (FV.int .i64 n5))]), (TV.one (AV.fz (FV.int .i64 (IntKind.wrap .i64 (depth + 1)))))] [] (TV.one (AV.fz (FV.bool b5))) []) ∧ ((((Bool.not b5) = true) → (R (TV.one (AV.fz (FV.bool false))) [])) ∧ (((Bool.not b5) = false) → (law05_light_L0 R d0 d1 d2 d3 d4 d5 depth (IntKind.wrap .i64 (i + 1)))))))))))))))) ∧ (((decide (i < (((List.length d4) : Nat) : Int))) = false) → (R (TV.one (AV.fz (FV.bool true))) [])))
theorem law05_light_l0 {R : TV → List Ob → Prop} {d0 : Int} {d1 : ByteArray} {d2 : Bool} {d3 : List (List FV)} {d4 : List (List FV)} {d5 : Int} {depth : Int} {i : Int} (h : law05_light_R0 R d0 d1 d2 d3 d4 d5 depth i) : law05_light_L0 R d0 d1 d2 d3 d4 d5 depth i :=
  LoopAt.by_tr (by kernel_rfl) (by kernel_rfl) h
def law05_light_H (R : TV → List Ob → Prop) (d0 : Int) (d1 : ByteArray) (d2 : Bool) (d3 : List (List FV)) (d4 : List (List FV)) (d5 : Int) (depth : Int) : Prop :=
  ((((decide ((100 : Int) < depth)) = true) → (R (TV.one (AV.fz (FV.bool false))) [])) ∧ (((decide ((100 : Int) < depth)) = false) → ((((decide ((9000 : Int) < (((List.length d4) : Nat) : Int))) = true) → (R (TV.one (AV.fz (FV.bool false))) [])) ∧ (((decide ((9000 : Int) < (((List.length d4) : Nat) : Int))) = false) → (law05_light_L0 R d0 d1 d2 d3 d4 d5 depth 0)))))
theorem law05_light_fn (d0 : Int) (d1 : ByteArray) (d2 : Bool) (d3 : List (List FV)) (d4 : List (List FV)) (d5 : Int) (depth : Int) {r : TV} {h : List Ob} (H : law05_light_H (fun r' h' => r' = r ∧ h' = h) d0 d1 d2 d3 d4 d5 depth) : Fn Tryz.prog 18 [(TV.agg [(AV.fz (FV.int .i64 d0)), (AV.fz (FV.str d1)), (AV.fz (FV.bool d2)), (AV.fz (FV.sl 1 d3)), (AV.fz (FV.sl 6 d4)), (AV.fz (FV.int .i64 d5))]), (TV.one (AV.fz (FV.int .i64 depth)))] [] r h :=
  Fn.by_tr (M := (modeOf [] [])) (lv := law05_light_lv) (own := none) (F := Tryz.f18) (by kernel_rfl) (by kernel_rfl) (by first | decide | simp) (fun _ _ h => h) (by kernel_rfl) H
end Go.Proofs.YtejefchehdifhaaGreatDoor.Ev
end
section
set_option linter.unusedVariables false
set_option linter.unusedSimpArgs false
namespace Go.Proofs.YtejefchehdifhaaGreatDoor.Ev
open Go
def listA : Dt := .mk 1 (bytesOf []) false [] [.mk 4 (bytesOf [97]) false [] [] 0] 0
theorem listA_ok : listA.ok := by
  unfold listA
  simp only [Dt.ok, Dt.oks, size_of, I64, U32, Lim]
  simp
theorem listA_snd : listA.snd = true := by decide +kernel
theorem listA_txt : listA.txt = [40, 97, 41] := by decide +kernel
theorem answers5_ok : Fn Tryz.prog 19 [] [] (fzB true) [] := by
  refine law05_answers_fn ?_
  unfold law05_answers_H
  have h := printYes_ok listA listA_ok listA_snd (by rw [listA_txt]; simp)
  rw [listA_txt] at h
  rw [show ByteArray.mk #[40, 97, 41] = bytesOf [40, 97, 41] from by decide +kernel, show ByteArray.mk #[97] = bytesOf [97] from by decide +kernel, show ByteArray.mk #[] = bytesOf [] from by decide +kernel]
  exact ⟨_, _, h, fun _ => ⟨by simp, rfl⟩, fun h => absurd h (by decide)⟩
end Go.Proofs.YtejefchehdifhaaGreatDoor.Ev
end
section
set_option linter.unusedVariables false
set_option linter.unusedSimpArgs false
namespace Go.Proofs.YtejefchehdifhaaGreatDoor.Ev
open Go
theorem own5_loop (k : Int) (t : ByteArray) (n : Bool) (l : List Int) (a : Int) (xs : List Dt) (hl : xs.length ≤ 1048576) (hp : ∀ x ∈ xs, Fn Tryz.prog 21 [fzD x] [] (fzD x) [])
    (R : TV → List Ob → Prop) (hR : R (fzD (.mk k t n l xs a)) []) : ∀ (d j : Nat), j + d = xs.length → law05_own_L0 R k t n (ints .u32 l) (Dt.rows xs) a j (Dt.rows (xs.take j))
  | 0, j, hj => by
    refine law05_own_l0 ?_
    unfold law05_own_R0
    rw [rows_len, dec_t, dec_f, List.nil_append]
    refine ⟨fun h => by omega, fun _ => ?_⟩
    rw [List.take_of_length_le (by omega)]
    unfold fzD at hR
    simp only [Dt.row, List.map_cons, List.map_nil] at hR
    exact hR
  | d + 1, j, hj => by
    have hF := hp xs[j] (List.getElem_mem _)
    have hr : (Dt.rows xs)[Int.toNat (j : Int)]? = some xs[j].row := by rw [rows_get, Int.toNat_natCast, List.getElem?_eq_getElem (by omega)]; rfl
    have ht : xs.take (j + 1) = xs.take j ++ [xs[j]] := List.take_succ_eq_append_getElem (by omega)
    have ih := own5_loop k t n l a xs hl hp R hR d (j + 1) (by omega)
    rw [ht, rows_app] at ih
    generalize xs[j] = y at hF hr ih
    obtain ⟨k', t', n', l', ys, a'⟩ := y
    unfold fzD at hF
    simp only [Dt.row, Dt.rows, List.map_cons, List.map_nil] at hF hr ih
    refine law05_own_l0 ?_
    unfold law05_own_R0
    have e : IntKind.wrap .i64 ((j : Int) + 1) = ((j + 1 : Nat) : Int) := w64 (by omega) (by omega)
    rw [rows_len, dec_t, dec_f, e]
    refine ⟨fun _ => ⟨by omega, _, _, _, _, _, _, hr, _, _, _, _, _, _, hF, ?_, ih⟩, fun h => by omega⟩
    rw [rows_len, List.length_take, List.length_singleton]
    omega
mutual
theorem own5_ok : ∀ (x : Dt), x.ok → Fn Tryz.prog 21 [fzD x] [] (fzD x) []
  | .mk k t n l xs a, hok => by
    unfold Dt.ok at hok
    obtain ⟨_, _, _, hl4, hxl, hxs, _⟩ := hok
    have hall := own5_all xs hxs
    obtain ⟨R, hR, hRe⟩ := exR (fzD (.mk k t n l xs a))
    have hR' := hR
    unfold fzD at hRe ⊢
    simp only [Dt.row, List.map_cons, List.map_nil] at hRe ⊢
    refine law05_own_fn _ _ _ _ _ _ ?_
    rw [hRe]
    clear hRe
    unfold law05_own_H
    rw [List.length_nil, ints_len]
    exact ⟨by omega, by simpa [Dt.rows] using own5_loop k t n l a xs hxl hall R hR' xs.length 0 (by omega)⟩
theorem own5_all : ∀ (xs : List Dt), Dt.oks xs → ∀ x ∈ xs, Fn Tryz.prog 21 [fzD x] [] (fzD x) []
  | [], hok => fun x hx => by cases hx
  | y :: xs, hok => fun x hx => by
    unfold Dt.oks at hok
    have h1 := own5_ok y hok.1
    have h2 := own5_all xs hok.2
    rcases List.mem_cons.1 hx with rfl | hx
    · exact h1
    · exact h2 x hx
end
theorem light5_loop (k : Int) (t : ByteArray) (n : Bool) (l : List Int) (a : Int) (xs : List Dt) (hl : xs.length ≤ 1048576) (dp : Int) (hp : ∀ x ∈ xs, ∃ b, Fn Tryz.prog 18 [fzD x, fzI .i64 (IntKind.wrap .i64 (dp + 1))] [] (fzB b) []) :
    ∀ (d j : Nat), j + d = xs.length → ∃ b, ∀ R : TV → List Ob → Prop, R (fzB b) [] → law05_light_L0 R k t n (ints .u32 l) (Dt.rows xs) a dp j
  | 0, j, hj => by
    refine ⟨true, fun R hR => law05_light_l0 ?_⟩
    unfold law05_light_R0
    rw [rows_len, dec_t, dec_f]
    exact ⟨fun h => by omega, fun _ => hR⟩
  | d + 1, j, hj => by
    obtain ⟨b, hF⟩ := hp xs[j] (List.getElem_mem _)
    have hr : (Dt.rows xs)[Int.toNat (j : Int)]? = some xs[j].row := by rw [rows_get, Int.toNat_natCast, List.getElem?_eq_getElem (by omega)]; rfl
    obtain ⟨b2, ih⟩ := light5_loop k t n l a xs hl dp hp d (j + 1) (by omega)
    generalize xs[j] = y at hF hr
    obtain ⟨k', t', n', l', ys, a'⟩ := y
    unfold fzD at hF
    simp only [Dt.row, Dt.rows, List.map_cons, List.map_nil] at hF hr
    have e : IntKind.wrap .i64 ((j : Int) + 1) = ((j + 1 : Nat) : Int) := w64 (by omega) (by omega)
    refine ⟨if b = true then b2 else false, fun R hR => law05_light_l0 ?_⟩
    unfold law05_light_R0
    rw [rows_len, dec_t, dec_f, e]
    refine ⟨fun _ => ⟨by omega, _, _, _, _, _, _, hr, b, hF, fun h => ?_, fun h => ?_⟩, fun h => by omega⟩
    · have : b = false := by simpa using h
      rw [this] at hR
      exact hR
    · have : b = true := by simpa using h
      rw [this] at hR
      exact ih R hR
mutual
theorem light5_ok : ∀ (x : Dt) (dp : Int), x.ok → ∃ b, Fn Tryz.prog 18 [fzD x, fzI .i64 dp] [] (fzB b) []
  | .mk k t n l xs a, dp, hok => by
    unfold Dt.ok at hok
    obtain ⟨_, _, _, hl4, hxl, hxs, _⟩ := hok
    have hall := light5_all xs (IntKind.wrap .i64 (dp + 1)) hxs
    obtain ⟨b, hb⟩ := light5_loop k t n l a xs hxl dp hall xs.length 0 (by omega)
    refine ⟨if 100 < dp then false else if 9000 < xs.length then false else b, law05_light_fn _ _ _ _ _ _ _ ?_⟩
    obtain ⟨R, hR, hRe⟩ := exR (fzB (if 100 < dp then false else if 9000 < xs.length then false else b))
    rw [hRe]; clear hRe
    unfold law05_light_H
    rw [rows_len]
    simp only [dec_t, dec_f]
    refine ⟨fun h => ?_, fun h => ⟨fun h2 => ?_, fun h2 => ?_⟩⟩
    · rw [if_pos h] at hR; exact hR
    · rw [if_neg h, if_pos (by omega)] at hR; exact hR
    · rw [if_neg h, if_neg (by omega)] at hR; exact hb R hR
theorem light5_all : ∀ (xs : List Dt) (dp : Int), Dt.oks xs → ∀ x ∈ xs, ∃ b, Fn Tryz.prog 18 [fzD x, fzI .i64 dp] [] (fzB b) []
  | [], dp, hok => fun x hx => by cases hx
  | y :: xs, dp, hok => fun x hx => by
    unfold Dt.oks at hok
    have h1 := light5_ok y dp hok.1
    have h2 := light5_all xs dp hok.2
    rcases List.mem_cons.1 hx with rfl | hx
    · exact h1
    · exact h2 x hx
end
end Go.Proofs.YtejefchehdifhaaGreatDoor.Ev
end
section
set_option linter.unusedVariables false
set_option linter.unusedSimpArgs false
namespace Go.Proofs.YtejefchehdifhaaGreatDoor.Ev
open Go
mutual
theorem meas_mono : ∀ (x : Dt) (dp room dp' room' : Int), dp' ≤ dp → room ≤ room' → 0 < x.meas dp room → x.meas dp' room' = x.meas dp room
  | .mk k t n l ds a, dp, room, dp', room', h1, h2, h => by
    unfold Dt.meas at h ⊢
    by_cases c : 64 < dp ∨ room < 1
    · rw [if_pos c] at h; omega
    rw [if_neg c] at h
    rw [if_neg c, if_neg (show ¬ (64 < dp' ∨ room' < 1) by omega)]
    by_cases c2 : k = 1 ∨ k = 3 ∨ k = 2
    · rw [if_pos c2] at h
      rw [if_pos c2, if_pos c2]
      by_cases c3 : (plB t n l ds.length false false true && dotB k ds) = true
      · rw [if_pos c3] at h
        rw [if_pos c3, if_pos c3]
        exact measL_mono ds _ _ _ _ 1 (by omega) h2 h
      · rw [if_neg c3] at h; omega
    · rw [if_neg c2, if_neg c2]
theorem measL_mono : ∀ (xs : List Dt) (dp room dp' room' n : Int), dp' ≤ dp → room ≤ room' → 0 < Dt.measL xs dp room n → Dt.measL xs dp' room' n = Dt.measL xs dp room n
  | [], _, _, _, _, _, _, _, _ => rfl
  | x :: xs, dp, room, dp', room', n, h1, h2, h => by
    unfold Dt.measL at h ⊢
    by_cases c : x.meas dp (room - n) < 0
    · rw [if_pos c] at h; omega
    · rw [if_neg c] at h
      have hl := meas_le x dp (room - n)
      have e := meas_mono x dp (room - n) dp' (room' - n) h1 (by omega) (by omega)
      rw [e, if_neg c, if_neg c]
      exact measL_mono xs _ _ _ _ _ h1 h2 h
end
theorem measL_mem : ∀ {xs : List Dt} {dp room n : Int}, 1 ≤ n → 0 < Dt.measL xs dp room n → ∀ x ∈ xs, ∃ r, r ≤ room ∧ 0 < x.meas dp r
  | [], _, _, _, _, _, x, hx => by cases hx
  | y :: xs, dp, room, n, hn, h, x, hx => by
    unfold Dt.measL at h
    by_cases c : y.meas dp (room - n) < 0
    · rw [if_pos c] at h; omega
    · rw [if_neg c] at h
      have hl := meas_le y dp (room - n)
      rcases List.mem_cons.1 hx with rfl | hx
      · exact ⟨room - n, by omega, by omega⟩
      · exact measL_mem (n := n + y.meas dp (room - n)) (by omega) h x hx
theorem snd_list {xs : List Dt} (h : (Dt.mk 1 (bytesOf []) false [] xs 0).snd = true) : (Dt.mk 3 (bytesOf []) false [] xs 0).snd = true ∧ ∀ x ∈ xs, x.snd = true := by
  have h1 : 0 < (Dt.mk 1 (bytesOf []) false [] xs 0).meas 1 8192 := of_decide_eq_true h
  unfold Dt.meas at h1
  rw [if_neg (by omega), if_pos (.inl rfl)] at h1
  have hp : plB (bytesOf []) false [] xs.length false false true = true := by
    cases hb : plB (bytesOf []) false [] xs.length false false true with
    | true => rfl
    | false => rw [hb] at h1; simp at h1
  rw [hp, Bool.true_and, if_pos (dotB_ne (by decide))] at h1
  refine ⟨?_, fun x hx => ?_⟩
  · unfold Dt.snd Dt.meas
    rw [if_neg (by omega), if_pos (.inr (.inl rfl)), hp, Bool.true_and, if_pos (dotB_ne (by decide))]
    exact decide_eq_true h1
  · obtain ⟨r, hr, hm⟩ := measL_mem (by omega) h1 x hx
    unfold Dt.snd
    rw [meas_mono x (1 + 1) r 1 8192 (by omega) hr hm]
    exact decide_eq_true hm
end Go.Proofs.YtejefchehdifhaaGreatDoor.Ev
end
section
set_option linter.unusedVariables false
set_option maxRecDepth 100000
namespace Go.Proofs.YtejefchehdifhaaGreatDoor.Ev
open Go
def law05_PrintJoins_lv : List Nat → Keep := lvOf [([0, 1, 0, 1, 1, 1, 1, 1, 1], ⟨4035, 0, [], false, false⟩)]
def law05_PrintJoins_S0 (list : List (List FV)) (n : Int) (s1 : ByteArray) (n3 : Int) (s3 : ByteArray) (n6 : Int) (want : ByteArray) (i : Int) : St := (St.mk [(TV.one (AV.fz (FV.sl 6 list))), (TV.one (AV.fz (FV.int .u8 n))), TV.und, TV.und, TV.und, TV.und, (TV.one (AV.fz (FV.str s1))), (TV.one (AV.fz (FV.int .i64 n3))), (TV.one (AV.fz (FV.str s3))), (TV.one (AV.fz (FV.int .i64 n6))), (TV.one (AV.fz (FV.str want))), (TV.one (AV.fz (FV.int .i64 i))), TV.und, TV.und, TV.und, TV.und, TV.und, TV.und, TV.und, TV.und, TV.und, TV.und, TV.und, TV.und, TV.und, TV.und, TV.und, TV.und, TV.und, TV.und, TV.und, TV.und, TV.und, TV.und, TV.und, TV.und, TV.und, TV.und, TV.und, TV.und, TV.und, TV.und, TV.und, TV.und, TV.und, TV.und, TV.und, TV.und, TV.und, TV.und, TV.und, TV.und, TV.und, TV.und, TV.und, TV.und, TV.und, TV.und, TV.und, TV.und, TV.und, TV.und, TV.und, TV.und, TV.und, TV.und, TV.und, TV.und, TV.und, TV.und, TV.und, TV.und, TV.und, TV.und, TV.und, TV.und, TV.und, TV.und, TV.und, TV.und, TV.und, TV.und, TV.und, TV.und, TV.und, TV.und, TV.und, TV.und, TV.und, TV.und, TV.und, TV.und, TV.und, TV.und, TV.und, TV.und, TV.und, TV.und, TV.und, TV.und, TV.und, TV.und] [])
def law05_PrintJoins_L0 (R : TV → List Ob → Prop) (list : List (List FV)) (n : Int) (s1 : ByteArray) (n3 : Int) (s3 : ByteArray) (n6 : Int) (want : ByteArray) (i : Int) : Prop := LoopAt Tryz.prog (modeOf [] []) law05_PrintJoins_lv Tryz.f8 none R [1, 1, 1, 1, 1, 1, 0, 1, 0] (law05_PrintJoins_S0 list n s1 n3 s3 n6 want i)
def law05_PrintJoins_R0 (R : TV → List Ob → Prop) (list : List (List FV)) (n : Int) (s1 : ByteArray) (n3 : Int) (s3 : ByteArray) (n6 : Int) (want : ByteArray) (i : Int) : Prop :=
  ((((decide (i < (((List.length list) : Nat) : Int))) = true) → (((0 : Int) ≤ i) ∧ (∃ n20 : Int, (∃ s12 : ByteArray, (∃ b12 : Bool, (∃ es12 : List (List FV), (∃ es13 : List (List FV), (∃ n21 : Int, (((list)[(Int.toNat i)]? = (some [(FV.int .i64 n20), (FV.str s12), (FV.bool b12), (FV.sl 1 es12), (FV.sl 6 es13), (FV.int .i64 n21)])) ∧ (∃ n22 : Int, (∃ s13 : ByteArray, (∃ b13 : Bool, (∃ es14 : List (List FV), (∃ es15 : List (List FV), (∃ n23 : Int, ((Fn Tryz.prog 21 [(TV.agg [(AV.fz (FV.int .i64 n20)), (AV.fz (FV.str s12)), (AV.fz (FV.bool b12)), (AV.fz (FV.sl 1 es12)), (AV.fz (FV.sl 6 es13)), (AV.fz (FV.int .i64 n21))])] [] (TV.agg [(AV.fz (FV.int .i64 n22)), (AV.fz (FV.str s13)), (AV.fz (FV.bool b13)), (AV.fz (FV.sl 1 es14)), (AV.fz (FV.sl 6 es15)), (AV.fz (FV.int .i64 n23))]) []) ∧ (∃ s14 : ByteArray, (∃ n24 : Int, ((Fn Tryz.prog 20 [(TV.agg [(AV.fz (FV.int .i64 n22)), (AV.fz (FV.str s13)), (AV.fz (FV.bool b13)), (AV.fz (FV.sl 1 es14)), (AV.fz (FV.sl 6 es15)), (AV.fz (FV.int .i64 n23))])] [] (TV.tup [(false, [(AV.fz (FV.str s14))]), (false, [(AV.fz (FV.int .i64 n24))])]) []) ∧ ((((n24 != 0) = true) → (R (TV.one (AV.fz (FV.bool false))) [])) ∧ (((n24 != 0) = false) → ((((decide ((0 : Int) < i)) = true) → ((((ByteArray.size want) + (ByteArray.size (ByteArray.mk #[32]))) ≤ 9223372036854775807) ∧ ((((ByteArray.size (want ++ (ByteArray.mk #[32]))) + (ByteArray.size s14)) ≤ 9223372036854775807) ∧ (law05_PrintJoins_L0 R list n s1 n3 s3 n6 ((want ++ (ByteArray.mk #[32])) ++ s14) (IntKind.wrap .i64 (i + 1)))))) ∧ (((decide ((0 : Int) < i)) = false) → ((((ByteArray.size want) + (ByteArray.size s14)) ≤ 9223372036854775807) ∧ (law05_PrintJoins_L0 R list n s1 n3 s3 n6 (want ++ s14) (IntKind.wrap .i64 (i + 1))))))))))))))))))))))))))) ∧ (((decide (i < (((List.length list) : Nat) : Int))) = false) → (((26 : Int) ≠ 0) ∧ (((10 : Int) ≠ 0) ∧ (∃ ns2 : List Int, (([[(FV.int .u8 (IntKind.wrap .u8 (97 + (Int.tmod n 26))))], [(FV.int .u8 32)], [(FV.int .u8 (IntKind.wrap .u8 (48 + (Int.tmod n 10))))]] = (List.map (fun n25 => [(FV.int .u8 n25)]) ns2)) ∧ ((((n3 == 0) = true) → ((((n6 == 0) = true) → ((((ByteArray.size want) + (ByteArray.size (ByteArray.mk #[41]))) ≤ 9223372036854775807) ∧ (((((ByteArray.toList s1) == (ByteArray.toList (want ++ (ByteArray.mk #[41])))) = true) → ((((ByteArray.size (ByteArray.mk #[35])) + (ByteArray.size want)) ≤ 9223372036854775807) ∧ ((((ByteArray.size ((ByteArray.mk #[35]) ++ want)) + (ByteArray.size (ByteArray.mk #[41]))) ≤ 9223372036854775807) ∧ (((((ByteArray.toList s3) == (ByteArray.toList (((ByteArray.mk #[35]) ++ want) ++ (ByteArray.mk #[41])))) = true) → (∃ s15 : ByteArray, ((Fn Tryz.prog 24 [(TV.one (AV.fz (FV.str (bytesOf ns2))))] [] (TV.one (AV.fz (FV.str s15))) []) ∧ ((((ByteArray.size (ByteArray.mk #[34])) + (ByteArray.size (bytesOf ns2))) ≤ 9223372036854775807) ∧ ((((ByteArray.size ((ByteArray.mk #[34]) ++ (bytesOf ns2))) + (ByteArray.size (ByteArray.mk #[34]))) ≤ 9223372036854775807) ∧ (R (TV.one (AV.fz (FV.bool ((ByteArray.toList s15) == (ByteArray.toList (((ByteArray.mk #[34]) ++ (bytesOf ns2)) ++ (ByteArray.mk #[34]))))))) [])))))) ∧ ((((ByteArray.toList s3) == (ByteArray.toList (((ByteArray.mk #[35]) ++ want) ++ (ByteArray.mk #[41])))) = false) → (R (TV.one (AV.fz (FV.bool false))) [])))))) ∧ ((((ByteArray.toList s1) == (ByteArray.toList (want ++ (ByteArray.mk #[41])))) = false) → (R (TV.one (AV.fz (FV.bool false))) []))))) ∧ (((n6 == 0) = false) → (R (TV.one (AV.fz (FV.bool false))) [])))) ∧ (((n3 == 0) = false) → (R (TV.one (AV.fz (FV.bool false))) [])))))))))
theorem law05_PrintJoins_l0 {R : TV → List Ob → Prop} {list : List (List FV)} {n : Int} {s1 : ByteArray} {n3 : Int} {s3 : ByteArray} {n6 : Int} {want : ByteArray} {i : Int} (h : law05_PrintJoins_R0 R list n s1 n3 s3 n6 want i) : law05_PrintJoins_L0 R list n s1 n3 s3 n6 want i :=
  LoopAt.by_tr (by kernel_rfl) (by kernel_rfl) h
def law05_PrintJoins_H (R : TV → List Ob → Prop) (list : List (List FV)) (n : Int) : Prop :=
  (∃ b12 : Bool, ((Fn Tryz.prog 19 [] [] (TV.one (AV.fz (FV.bool b12))) []) ∧ ((((Bool.not b12) = true) → (∃ b13 : Bool, ((Fn Tryz.prog 19 [] [] (TV.one (AV.fz (FV.bool b13))) []) ∧ (R (TV.one (AV.fz (FV.bool b13))) [])))) ∧ (((Bool.not b12) = false) → (∃ b14 : Bool, ((Fn Tryz.prog 18 [(TV.agg [(AV.fz (FV.int .i64 1)), (AV.fz (FV.str (ByteArray.mk #[]))), (AV.fz (FV.bool false)), (AV.fz (FV.sl 1 ([] : List (List FV)))), (AV.fz (FV.sl 6 list)), (AV.fz (FV.int .i64 0))]), (TV.one (AV.fz (FV.int .i64 1)))] [] (TV.one (AV.fz (FV.bool b14))) []) ∧ ((((Bool.not b14) = true) → (∃ b15 : Bool, ((Fn Tryz.prog 19 [] [] (TV.one (AV.fz (FV.bool b15))) []) ∧ (R (TV.one (AV.fz (FV.bool b15))) [])))) ∧ (((Bool.not b14) = false) → (∃ b16 : Bool, ((Fn Tryz.prog 22 [(TV.agg [(AV.fz (FV.int .i64 1)), (AV.fz (FV.str (ByteArray.mk #[]))), (AV.fz (FV.bool false)), (AV.fz (FV.sl 1 ([] : List (List FV)))), (AV.fz (FV.sl 6 list)), (AV.fz (FV.int .i64 0))])] [] (TV.one (AV.fz (FV.bool b16))) []) ∧ ((((Bool.not b16) = true) → (∃ b17 : Bool, ((Fn Tryz.prog 19 [] [] (TV.one (AV.fz (FV.bool b17))) []) ∧ (R (TV.one (AV.fz (FV.bool b17))) [])))) ∧ (((Bool.not b16) = false) → (∃ n20 : Int, (∃ s12 : ByteArray, (∃ b18 : Bool, (∃ es12 : List (List FV), (∃ es13 : List (List FV), (∃ n21 : Int, ((Fn Tryz.prog 21 [(TV.agg [(AV.fz (FV.int .i64 1)), (AV.fz (FV.str (ByteArray.mk #[]))), (AV.fz (FV.bool false)), (AV.fz (FV.sl 1 ([] : List (List FV)))), (AV.fz (FV.sl 6 list)), (AV.fz (FV.int .i64 0))])] [] (TV.agg [(AV.fz (FV.int .i64 n20)), (AV.fz (FV.str s12)), (AV.fz (FV.bool b18)), (AV.fz (FV.sl 1 es12)), (AV.fz (FV.sl 6 es13)), (AV.fz (FV.int .i64 n21))]) []) ∧ (∃ s13 : ByteArray, (∃ n22 : Int, ((Fn Tryz.prog 20 [(TV.agg [(AV.fz (FV.int .i64 n20)), (AV.fz (FV.str s12)), (AV.fz (FV.bool b18)), (AV.fz (FV.sl 1 es12)), (AV.fz (FV.sl 6 es13)), (AV.fz (FV.int .i64 n21))])] [] (TV.tup [(false, [(AV.fz (FV.str s13))]), (false, [(AV.fz (FV.int .i64 n22))])]) []) ∧ (∃ n23 : Int, (∃ s14 : ByteArray, (∃ b19 : Bool, (∃ es14 : List (List FV), (∃ es15 : List (List FV), (∃ n24 : Int, ((Fn Tryz.prog 21 [(TV.agg [(AV.fz (FV.int .i64 3)), (AV.fz (FV.str (ByteArray.mk #[]))), (AV.fz (FV.bool false)), (AV.fz (FV.sl 1 ([] : List (List FV)))), (AV.fz (FV.sl 6 list)), (AV.fz (FV.int .i64 0))])] [] (TV.agg [(AV.fz (FV.int .i64 n23)), (AV.fz (FV.str s14)), (AV.fz (FV.bool b19)), (AV.fz (FV.sl 1 es14)), (AV.fz (FV.sl 6 es15)), (AV.fz (FV.int .i64 n24))]) []) ∧ (∃ s15 : ByteArray, (∃ n25 : Int, ((Fn Tryz.prog 20 [(TV.agg [(AV.fz (FV.int .i64 n23)), (AV.fz (FV.str s14)), (AV.fz (FV.bool b19)), (AV.fz (FV.sl 1 es14)), (AV.fz (FV.sl 6 es15)), (AV.fz (FV.int .i64 n24))])] [] (TV.tup [(false, [(AV.fz (FV.str s15))]), (false, [(AV.fz (FV.int .i64 n25))])]) []) ∧ (law05_PrintJoins_L0 R list n s13 n22 s15 n25 (ByteArray.mk #[40]) 0)))))))))))))))))))))))))))))))))
theorem law05_PrintJoins_fn (list : List (List FV)) (n : Int) {r : TV} {h : List Ob} (H : law05_PrintJoins_H (fun r' h' => r' = r ∧ h' = h) list n) : Fn Tryz.prog 8 [(TV.one (AV.fz (FV.sl 6 list))), (TV.one (AV.fz (FV.int .u8 n)))] [] r h :=
  Fn.by_tr (M := (modeOf [] [])) (lv := law05_PrintJoins_lv) (own := none) (F := Tryz.f8) (by kernel_rfl) (by kernel_rfl) (by first | decide | simp) (fun _ _ h => h) (by kernel_rfl) H
end Go.Proofs.YtejefchehdifhaaGreatDoor.Ev
end
section
set_option linter.unusedVariables false
namespace Go.Proofs.YtejefchehdifhaaGreatDoor.Ev
open Go
theorem quo_plain : ∀ n : Fin 256, quoV [97 + (n.val : Int) % 26, 32, 48 + (n.val : Int) % 10] = [34] ++ [97 + (n.val : Int) % 26, 32, 48 + (n.val : Int) % 10] ++ [34] := by decide +kernel
theorem joins_loop (xs : List Dt) (n : Int) (hn0 : 0 ≤ n) (hn1 : n < 256) (hxl : xs.length ≤ 1048576) (hok : ∀ x ∈ xs, x.ok ∧ x.snd = true ∧ x.txt.length ≤ 98000000) (W : List Int) (hW : W.length ≤ 99000000) (R : TV → List Ob → Prop) (hR : R (fzB true) []) :
    ∀ (d j : Nat) (out : List Int), j + d = xs.length → out ++ Dt.txts false (decide (j = 0)) (xs.drop j) = W → law05_PrintJoins_L0 R (Dt.rows xs) n (bytesOf W) 0 (bytesOf (35 :: W)) 0 (bytesOf out) j := by
  intro d
  induction d with
  | zero =>
    intro j out hj ho
    refine law05_PrintJoins_l0 ?_
    unfold law05_PrintJoins_R0
    rw [rows_len]
    rw [List.drop_eq_nil_of_le (by omega)] at ho
    unfold Dt.txts at ho
    have hq := quo_plain ⟨n.toNat, by omega⟩
    simp only at hq
    rw [show ((n.toNat : Nat) : Int) = n by omega] at hq
    have hb : Bytes [97 + n % 26, 32, 48 + n % 10] := by intro x hx; simp at hx; omega
    have hlen : out.length ≤ 99000000 := by have := congrArg List.length ho; rw [List.length_append] at this; omega
    have hQ := pQuoted_ok _ hb (by simp)
    rw [hq] at hQ
    have t1 : Int.tmod n 26 = n % 26 := Int.tmod_eq_emod_of_nonneg hn0
    have t2 : Int.tmod n 10 = n % 10 := Int.tmod_eq_emod_of_nonneg hn0
    rw [t1, t2, wu8 (n := 97 + n % 26) (by omega) (by omega), wu8 (n := 48 + n % 10) (by omega) (by omega), show ByteArray.mk #[41] = bytesOf [41] from by decide +kernel, show ByteArray.mk #[35] = bytesOf [35] from by decide +kernel, show ByteArray.mk #[34] = bytesOf [34] from by decide +kernel]
    refine ⟨fun h => absurd (of_decide_eq_true h) (by omega), fun _ => ⟨by omega, by omega, [97 + n % 26, 32, 48 + n % 10], rfl, fun _ => ⟨fun _ => ?_, fun h => absurd h (by decide)⟩, fun h => absurd h (by decide)⟩⟩
    rw [app_of, app_of, app_of, ho, show [35] ++ out ++ [41] = 35 :: W by rw [List.append_assoc, ho]; rfl, app_of, app_of]
    refine ⟨by rw [size_of, size_of]; simp only [List.length_cons, List.length_nil]; omega, fun _ => ⟨by rw [size_of, size_of]; simp only [List.length_cons, List.length_nil]; omega, by rw [size_of, size_of]; simp only [List.length_append, List.length_cons, List.length_nil]; omega, fun _ => ⟨_, hQ, by rw [size_of, size_of]; simp, by rw [size_of, size_of]; simp, ?_⟩, fun h => absurd h (by simp)⟩, fun h => absurd h (by simp)⟩
    rw [show ∀ X : List Int, ((bytesOf X).toList == (bytesOf X).toList) = true from fun X => by simp]
    exact hR
  | succ d ih =>
    intro j out hj ho
    refine law05_PrintJoins_l0 ?_
    unfold law05_PrintJoins_R0
    rw [rows_len]
    have hlt : j < xs.length := by omega
    rw [List.drop_eq_getElem_cons hlt, txts_cons] at ho
    have hg : (Dt.rows xs)[Int.toNat (j : Int)]? = some xs[j].row := by rw [rows_get, Int.toNat_natCast, List.getElem?_eq_getElem hlt]; rfl
    obtain ⟨o1, o2, o3⟩ := hok xs[j] (List.getElem_mem _)
    have hO := own5_ok xs[j] o1
    have hP := printYes_ok xs[j] o1 o2 o3
    rw [if_neg (show ¬ (false = true ∧ xs.drop (j + 1) = []) from fun c => absurd c.1 (by decide)), List.nil_append] at ho
    have hlen := congrArg List.length ho
    simp only [List.length_append] at hlen
    generalize hX : xs[j].txt = X at *
    generalize hx : xs[j] = x at *
    obtain ⟨k', t', n', l', ds', a'⟩ := x
    rw [show ByteArray.mk #[32] = bytesOf [32] from by decide +kernel, w64 (by omega) (by omega)]
    refine ⟨fun _ => ⟨by omega, _, _, _, _, _, _, hg, _, _, _, _, _, _, hO, _, _, hP, fun h => absurd h (by decide), fun _ => ⟨fun h0 => ?_, fun h0 => ?_⟩⟩, fun h => absurd hlt (by have := of_decide_eq_false h; omega)⟩
    · have j0 : ¬ j = 0 := by have := of_decide_eq_true h0; omega
      rw [if_neg (by simp [j0])] at ho hlen
      rw [app_of, app_of, size_of, size_of, size_of, size_of]
      refine ⟨by simp only [List.length_cons, List.length_nil] at *; omega, by simp only [List.length_append, List.length_cons, List.length_nil] at *; omega, ?_⟩
      exact ih (j + 1) (out ++ [32] ++ X) (by omega) (by rw [show decide (j + 1 = 0) = false from rfl]; simpa [List.append_assoc] using ho)
    · have j0 : j = 0 := by have := of_decide_eq_false h0; omega
      rw [if_pos (by simp [j0]), List.nil_append] at ho
      rw [app_of, size_of, size_of]
      refine ⟨by omega, ?_⟩
      exact ih (j + 1) (out ++ X) (by omega) (by rw [show decide (j + 1 = 0) = false from rfl]; simpa [List.append_assoc] using ho)
theorem tyV_Dts {x : TV} (h : TyV Tryz.prog 37 x) (hb : x.bulk ≤ 1048576) : ∃ ds : List Dt, x = .one (.fz (.sl 6 (Dt.rows ds))) ∧ ds.length ≤ 1048576 ∧ Dt.oks ds := by
  rcases h with ⟨fs, rfl, h, q, us⟩ | ⟨f, rfl, h⟩
  · rw [Tryz.underlying37] at us
    cases us
  · obtain ⟨ds, e, hd⟩ := (ty_Dt_aux h (by simpa [FV.bulkL, TV.bulk] using hb)).2 rfl
    cases e
    exact ⟨ds, rfl, hd⟩
theorem law_PrintJoins (xs : List TV) (h : TyAll Tryz.prog [37, 5] xs) (hb : bulkA xs ≤ 1048576) : Fn Tryz.prog 8 xs [] (.one (.fz (.bool true))) [] := by
  cases h with
  | cons h1 h =>
  cases h with
  | cons h2 h =>
  cases h
  obtain ⟨n, rfl, hn0, hn1⟩ := tyV_int h2 Tryz.underlying5
  have hn0 : (0 : Int) ≤ n := hn0
  have hn1 : n ≤ 255 := hn1
  obtain ⟨ds, rfl, hdl, hds⟩ := tyV_Dts h1 (by simp only [bulkA] at hb; omega)
  simp only [bulkA, TV.bulk, FV.bulk] at hb
  have ok1 : ∀ k : Int, k = 1 ∨ k = 3 → (Dt.mk k (bytesOf []) false [] ds 0).ok := fun k hk => by
    unfold Dt.ok
    exact ⟨⟨by omega, by omega⟩, by rw [size_of]; simp, (by intro x hx; cases hx), by simp, hdl, hds, ⟨by omega, by omega⟩⟩
  have oA := ok1 1 (.inl rfl)
  have oV := ok1 3 (.inr rfl)
  obtain ⟨b, hL⟩ := light5_ok _ 1 oA
  have hO := own5_ok _ oA
  have hO3 := own5_ok _ oV
  have hS := rSound_ok _ oA
  obtain ⟨R, hR, hRe⟩ := exR (fzB true)
  refine law05_PrintJoins_fn _ _ ?_
  rw [hRe]; clear hRe
  unfold law05_PrintJoins_H
  rw [show ByteArray.mk #[] = bytesOf [] from by decide +kernel, show ByteArray.mk #[40] = bytesOf [40] from by decide +kernel]
  refine ⟨_, answers5_ok, fun h => absurd h (by decide), fun _ => ⟨b, hL, fun _ => ⟨_, answers5_ok, hR⟩, fun _ => ⟨_, hS, fun _ => ⟨_, answers5_ok, hR⟩, fun hs => ?_⟩⟩⟩
  have hs : (Dt.mk 1 (bytesOf []) false [] ds 0).snd = true := by simpa using hs
  obtain ⟨s3, sx⟩ := snd_list hs
  have g1 := (txt_good _ oA (fit_of_snd hs)).2
  have g3 := (txt_good _ oV (fit_of_snd s3)).2
  simp only [Dt.row, FV.bulkL, FV.bulk, size_of, ints, List.map_nil, FV.bulkE, List.length_nil] at g1 g3
  have hP := printYes_ok _ oA hs (by omega)
  have hP3 := printYes_ok _ oV s3 (by omega)
  rw [txt_1] at hP g1
  rw [txt_3] at hP3
  refine ⟨_, _, _, _, _, _, hO, _, _, hP, _, _, _, _, _, _, hO3, _, _, hP3, ?_⟩
  refine joins_loop ds n (by omega) (by omega) hdl (fun x hx => ⟨oks_mem hds x hx, sx x hx, ?_⟩) _ (by omega) R hR ds.length 0 [40] (by omega) (by simp)
  have gx := (txt_good x (oks_mem hds x hx) (fit_of_snd (sx x hx))).2
  have hm : FV.bulkL x.row ≤ FV.bulkE (Dt.rows ds) := by
    obtain ⟨i, hi, e⟩ := List.getElem_of_mem hx
    refine bulkE_mem (List.mem_of_getElem? (i := i) ?_)
    rw [rows_get, List.getElem?_eq_getElem hi, e]; rfl
  omega
end Go.Proofs.YtejefchehdifhaaGreatDoor.Ev
end
section
set_option linter.unusedVariables false
namespace Go.Proofs.YtejefchehdifhaaGreatDoor.printJoins
open Go.ChangeShapes Go.WideShapes Go.ChangeAt Go.RowKit Go.Joins
open Go.Proofs.YtejefchehdifhaaGreatDoor.Ev (Ty TyAll TabAt Glob tabs closedB openedAll trodAll_below tabAt_ints_of tabAt_ifc_of tabAt_flat_of law_PrintJoins returnsIn_upto witness_upto)
theorem own : ownKnob Tryz.prog.godebug = none := by kernel_rfl
theorem laidOut : laidOutB Tryz.prog = true := by kernel_rfl
set_option maxRecDepth 100000 in
theorem door_met (os : Os) (args : Array Value) : laidMetH Tryz.prog Rows.printJoinsUptoRow.laid ((World.laidAll Tryz.prog os Rows.printJoinsUptoRow.laid).forCall (fun _ _ => 0) ⟨#[], args, []⟩).memory :=
  Eq.mp (show laidMet Tryz.prog Rows.printJoinsUptoRow.laid ((World.laidAll Tryz.prog os Rows.printJoinsUptoRow.laid).forCall (fun _ _ => 0) ⟨#[], args, []⟩).memory = laidMetH Tryz.prog Rows.printJoinsUptoRow.laid ((World.laidAll Tryz.prog os Rows.printJoinsUptoRow.laid).forCall (fun _ _ => 0) ⟨#[], args, []⟩).memory by kernel_rfl) (laidMet_laidAll (os := os) args (by kernel_rfl) (by kernel_rfl))
set_option maxRecDepth 100000 in
theorem glob {W : World} (hL : laidMetH Tryz.prog Rows.printJoinsUptoRow.laid W) : Glob W := by
  have hM : laidMet Tryz.prog Rows.printJoinsUptoRow.laid W := Eq.mp (by kernel_rfl) hL
  intro x hx
  simp only [tabs, List.mem_cons, List.mem_nil_iff, or_false] at hx
  rcases hx with rfl | rfl | rfl | rfl | rfl | rfl | rfl
  · exact tabAt_flat_of (n := "marginalia/utf.names") (d := Rows.laid_marginalia_utf_names) (fs := [Go.Proofs.YtejefchehdifhaaGreatDoor.Ev.FV.int .i64 32, Go.Proofs.YtejefchehdifhaaGreatDoor.Ev.FV.str (ByteArray.mk #[115, 112, 97, 99, 101]), Go.Proofs.YtejefchehdifhaaGreatDoor.Ev.FV.int .i64 10, Go.Proofs.YtejefchehdifhaaGreatDoor.Ev.FV.str (ByteArray.mk #[110, 101, 119, 108, 105, 110, 101]), Go.Proofs.YtejefchehdifhaaGreatDoor.Ev.FV.int .i64 9, Go.Proofs.YtejefchehdifhaaGreatDoor.Ev.FV.str (ByteArray.mk #[116, 97, 98]), Go.Proofs.YtejefchehdifhaaGreatDoor.Ev.FV.int .i64 13, Go.Proofs.YtejefchehdifhaaGreatDoor.Ev.FV.str (ByteArray.mk #[114, 101, 116, 117, 114, 110]), Go.Proofs.YtejefchehdifhaaGreatDoor.Ev.FV.int .i64 0, Go.Proofs.YtejefchehdifhaaGreatDoor.Ev.FV.str (ByteArray.mk #[110, 117, 108, 108]), Go.Proofs.YtejefchehdifhaaGreatDoor.Ev.FV.int .i64 127, Go.Proofs.YtejefchehdifhaaGreatDoor.Ev.FV.str (ByteArray.mk #[100, 101, 108, 101, 116, 101])]) (m := 8) hM (by kernel_rfl) (List.mem_of_getElem? (i := 6) (by kernel_rfl)) (g := 1) (t := 159) (by kernel_rfl) (by kernel_rfl) (by kernel_rfl)
  · exact tabAt_flat_of (n := "unicode/utf8.first") (d := Rows.laid_unicode_utf8_first) (fs := (List.range 256).map fun c => Go.Proofs.YtejefchehdifhaaGreatDoor.Ev.FV.int .u8 ((Go.Lib.firstT c : Nat) : Int)) (m := 8) hM (by kernel_rfl) (List.mem_of_getElem? (i := 7) (by kernel_rfl)) (g := 2) (t := 163) (by kernel_rfl) (by kernel_rfl) (by kernel_rfl)
  · exact tabAt_flat_of (n := "unicode/utf8.acceptRanges") (d := Rows.laid_unicode_utf8_acceptRanges) (fs := ((List.range 16).map fun i => [Go.Proofs.YtejefchehdifhaaGreatDoor.Ev.FV.int .u8 ((Go.Lib.accLo i : Nat) : Int), Go.Proofs.YtejefchehdifhaaGreatDoor.Ev.FV.int .u8 ((Go.Lib.accHi i : Nat) : Int)]).flatten) (m := 8) hM (by kernel_rfl) (List.mem_of_getElem? (i := 3) (by kernel_rfl)) (g := 3) (t := 167) (by kernel_rfl) (by kernel_rfl) (by kernel_rfl)
  · exact tabAt_ifc_of (n := "strconv.ErrSyntax") (d := Rows.laid_strconv_ErrSyntax) hM (by kernel_rfl) (List.mem_of_getElem? (i := 5) (by kernel_rfl)) (g := 4) (t := 97) (by kernel_rfl) (by kernel_rfl) Tryz.underlying97
  · exact tabAt_ifc_of (n := "strconv.ErrRange") (d := Rows.laid_strconv_ErrRange) hM (by kernel_rfl) (List.mem_of_getElem? (i := 4) (by kernel_rfl)) (g := 5) (t := 97) (by kernel_rfl) (by kernel_rfl) Tryz.underlying97
  · exact tabAt_flat_of (n := "internal/strconv.uint64pow10") (d := Rows.laid_internal_strconv_uint64pow10) (fs := (List.range 20).map fun i => Go.Proofs.YtejefchehdifhaaGreatDoor.Ev.FV.int .u64 ((10 ^ i : Nat) : Int)) (m := 8) hM (by kernel_rfl) (List.mem_of_getElem? (i := 2) (by kernel_rfl)) (g := 7) (t := 202) (by kernel_rfl) (by kernel_rfl) (by kernel_rfl)
  · exact tabAt_flat_of (n := "math/bits.deBruijn64tab") (d := Rows.laid_math_bits_deBruijn64tab) (fs := [0, 1, 56, 2, 57, 49, 28, 3, 61, 58, 42, 50, 38, 29, 17, 4, 62, 47, 59, 36, 45, 43, 51, 22, 53, 39, 33, 30, 24, 18, 12, 5, 63, 55, 48, 27, 60, 41, 37, 16, 46, 35, 44, 21, 52, 32, 23, 11, 54, 26, 40, 15, 34, 20, 31, 10, 25, 14, 19, 9, 13, 8, 7, 6].map fun i => Go.Proofs.YtejefchehdifhaaGreatDoor.Ev.FV.int .u8 i) (m := 8) hM (by kernel_rfl) (List.mem_of_getElem? (i := 1) (by kernel_rfl)) (g := 9) (t := 212) (by kernel_rfl) (by kernel_rfl) (by kernel_rfl)
set_option maxRecDepth 100000 in
theorem lifted (os : Os) (started : os.Started) (H : Type) (enc : TypeId × Value → H) :
    ReturnsInHanded {} Tryz.checked os 8 .any (fun w args => ((Rows.OpenSpec.upto Rows.printJoinsSpec).pre enc Tryz.prog Tryz.f8 Rows.printJoinsUptoRow.domain false w args ∧ laidMetH Tryz.prog Rows.printJoinsUptoRow.laid w) ∧ sizedMet enc Tryz.prog Tryz.f8 (Rows.OpenSpec.upto Rows.printJoinsSpec) false w args)
      (Rows.printJoinsSpec.post enc Tryz.prog Tryz.f8 false true false false) := by
  refine returnsIn_upto (C := Tryz.checked) (X := fun w _ => laidMetH Tryz.prog Rows.printJoinsUptoRow.laid w) (fun _ _ _ hh h => h.of_heap hh) own started (by kernel_rfl) Tryz.func8
    (witness_upto (enc := enc) (C := Tryz.checked) (os := os) (s := Rows.printJoinsSpec) (X := fun w _ => laidMetH Tryz.prog Rows.printJoinsUptoRow.laid w) (World.laidAll Tryz.prog os Rows.printJoinsUptoRow.laid) #[.slice none 0 0, .int .u8 0] 8 (World.laidAll_os _ _ _) (World.shaped_of_ZipB (by kernel_rfl) (by kernel_rfl)) (by kernel_rfl) (by kernel_rfl) (by kernel_rfl) (door_met os _)) ?_
  intro W base args ds gs before hval0 hW hcnd hbk hsz0 hL
  have hsz : (DataW.weightsEach Tryz.prog (Tryz.f8.params.toList ++ Rows.printJoinsSpec.plain.varTypes Tryz.prog) (ds ++ gs)).all (· ≤ reachBytes) = true := hsz0
  have hval : ∀ (j : Nat) t v, Tryz.f8.params[j]? = some t → args[j]? = some v → Value.okWide Tryz.prog W .any base t v := hval0
  have hW' := hW
  obtain ⟨p, q, hA0, hV, rfl, hfz, hnd⟩ := hW
  have hA : DataW.TrodAll enc Tryz.prog W 0 (fun _ => true) true Tryz.f8.params.toList args.toList ds p := hA0
  rw [Tryz.params8] at hA hval hsz
  obtain ⟨rfl, rfl⟩ := trodVars_none hV
  have hA2 := hA
  obtain ⟨v0, vs0, d0, ds0, p0, q0, hargs, rfl, rfl, h0_, r0⟩ := trodAll_cons hA2
  obtain ⟨v1, vs1, d1, ds1, p1, q1, rfl, rfl, rfl, h1_, r1⟩ := trodAll_cons r0
  obtain ⟨rfl, rfl, rfl⟩ := trodAll_nil r1
  obtain ⟨xs, h1, h2, h3, hb⟩ := openedAll (S := [37, 39, 3, 9, 36, 4, 34, 116, 5]) (ts := [37, 5]) (by kernel_rfl) (by decide) (fun j t v ht hv => hval j t v (by simpa using ht) (by simpa using hv)) hA (fun m hm => by simpa using List.all_eq_true.1 hsz m hm)
  refine ((law_PrintJoins xs h1 (Nat.le_trans hb hbk)).door (glob hL) (by simpa using h2) (fun i x hx => by obtain ⟨v, hv, hr⟩ := h3 i x hx; exact ⟨v, by simpa using hv, hr⟩)).mono fun e W' ⟨he, bel⟩ => ?_
  subst he
  exact ⟨_, rfl, _, _, _, [], _, [], hW', trodAll_mk1 (shut_bool Tryz.underlying4 _), trodAll_below laidOut bel (ts := [37, 5]) (by decide +kernel) hA, rfl, bel.frame _, fun h => by cases h⟩
theorem over : Rows.printJoinsUptoRow.holds Tryz.pinned (Rows.OpenSpec.upto Rows.printJoinsSpec) :=
  OpenClaim.holds_of_cond 8 Tryz.f8 rfl rfl rfl rfl rfl rfl rfl ⟨rfl, rfl, rfl, rfl, rfl⟩ rfl rfl rfl rfl rfl (by kernel_rfl) Tryz.func8 (by kernel_rfl)
    (of_decide_eq_true (by kernel_rfl)) (by unfold Func.isWrapper; first | (rw [if_pos (by decide +kernel)]; kernel_rfl) | (rw [if_neg (by decide +kernel)]; exact ⟨rfl, rfl⟩))
    (fun os started H enc _ _ => lifted os started H enc)
theorem proved : Rows.PrintJoinsUptoCardSaid :=
  Claim7.holds_tied_plain_at .later [] [.data, .data, .data, .data, .sentinel, .sentinel, .data, .pinned] true (true, "b7fd62ea3e1cb0ae30951ff2f781820105a8fe0c0743b841a15bd4ce99226292") true
    over (fun _ h => by cases h) (by kernel_rfl) (fun _ h => by cases h) printJoinsUpto_row_tie rfl ⟨rfl, rfl⟩ (by kernel_rfl) rfl
    (fun f fn hf hfn => by
      obtain rfl : f = 8 := Option.some.inj ((show Tryz.prog.funcNamed "marginalia/marginalialaw05.PrintJoins" = some 8 by kernel_rfl).symm.trans hf) |>.symm
      obtain rfl : fn = Tryz.f8 := (Option.some.inj (Tryz.func8.symm.trans hfn)).symm
      exact ⟨by kernel_rfl, fun j t ht => by
        rw [Tryz.params8] at ht
        have hm : t ∈ [37, 5] := by simpa using Array.mem_of_getElem? ht
        have hall : ([37, 5].all fun u => !Tryz.prog.wantsStandIn u) = true := by kernel_rfl
        exact (show Tryz.prog.wantsStandIn t = false by simpa using List.all_eq_true.1 hall t hm)⟩)
    (by kernel_rfl)
end Go.Proofs.YtejefchehdifhaaGreatDoor.printJoins
namespace Go.Proofs.YtejefchehdifhaaGreatDoor
theorem printJoinsUpto_holds : Rows.PrintJoinsUptoCardSaid := printJoins.proved
end Go.Proofs.YtejefchehdifhaaGreatDoor
end
