/-
 Part of a claim: definitions and lemmas that its theorem leans on, packed by wip/tools/pack.py.
-/
import Derived.Test.YtenkkekooimpjaaGreatDoorZT10
import Derived.Test.YtenkkekooimpjaaGreatDoorTie
import Derived.Test.YtenkkekooimpjaaGreatDoorCards
set_option linter.unusedVariables false
set_option linter.unusedSimpArgs false
section
set_option linter.unusedVariables false
namespace Go.Proofs.YtenkkekooimpjaaGreatDoor.readSame
open Go.ChangeShapes Go.WideShapes Go.ChangeAt Go.RowKit Go.Joins
open Go.Proofs.YtenkkekooimpjaaGreatDoor.Ev (Ty TyAll TabAt Glob tabs closedB openedAll trodAll_below tabAt_ints_of tabAt_ifc_of tabAt_flat_of law_ReadSame returnsIn_upto witness_upto)
theorem own : ownKnob Tryz.prog.godebug = none := by kernel_rfl
theorem laidOut : laidOutB Tryz.prog = true := by kernel_rfl
set_option maxRecDepth 100000 in
theorem door_met (os : Os) (args : Array Value) : laidMetH Tryz.prog Rows.readSameUptoRow.laid ((World.laidAll Tryz.prog os Rows.readSameUptoRow.laid).forCall (fun _ _ => 0) ⟨#[], args, []⟩).memory :=
 Eq.mp (show laidMet Tryz.prog Rows.readSameUptoRow.laid ((World.laidAll Tryz.prog os Rows.readSameUptoRow.laid).forCall (fun _ _ => 0) ⟨#[], args, []⟩).memory = laidMetH Tryz.prog Rows.readSameUptoRow.laid ((World.laidAll Tryz.prog os Rows.readSameUptoRow.laid).forCall (fun _ _ => 0) ⟨#[], args, []⟩).memory by kernel_rfl) (laidMet_laidAll (os := os) args (by kernel_rfl) (by kernel_rfl))
set_option maxRecDepth 100000 in
theorem glob {W : World} (hL : laidMetH Tryz.prog Rows.readSameUptoRow.laid W) : Glob W := by
 have hM : laidMet Tryz.prog Rows.readSameUptoRow.laid W := Eq.mp (by kernel_rfl) hL
 intro x hx
 simp only [tabs, List.mem_cons, List.mem_nil_iff, or_false] at hx
 rcases hx with rfl | rfl | rfl | rfl | rfl | rfl | rfl | rfl
 ·exact tabAt_flat_of (n := "marginalia/token.signs") (d := Rows.laid_marginalia_token_signs) (fs := [Go.Proofs.YtenkkekooimpjaaGreatDoor.Ev.FV.str (ByteArray.mk #[35, 44, 64]), Go.Proofs.YtenkkekooimpjaaGreatDoor.Ev.FV.int .i64 6, Go.Proofs.YtenkkekooimpjaaGreatDoor.Ev.FV.str (ByteArray.mk #[117, 110, 115, 121, 110, 116, 97, 120, 45, 115, 112, 108, 105, 99, 105, 110, 103]), Go.Proofs.YtenkkekooimpjaaGreatDoor.Ev.FV.str (ByteArray.mk #[35, 40]), Go.Proofs.YtenkkekooimpjaaGreatDoor.Ev.FV.int .i64 3, Go.Proofs.YtenkkekooimpjaaGreatDoor.Ev.FV.str (ByteArray.mk #[]), Go.Proofs.YtenkkekooimpjaaGreatDoor.Ev.FV.str (ByteArray.mk #[35, 59]), Go.Proofs.YtenkkekooimpjaaGreatDoor.Ev.FV.int .i64 5, Go.Proofs.YtenkkekooimpjaaGreatDoor.Ev.FV.str (ByteArray.mk #[]), Go.Proofs.YtenkkekooimpjaaGreatDoor.Ev.FV.str (ByteArray.mk #[35, 39]), Go.Proofs.YtenkkekooimpjaaGreatDoor.Ev.FV.int .i64 6, Go.Proofs.YtenkkekooimpjaaGreatDoor.Ev.FV.str (ByteArray.mk #[115, 121, 110, 116, 97, 120]), Go.Proofs.YtenkkekooimpjaaGreatDoor.Ev.FV.str (ByteArray.mk #[35, 96]), Go.Proofs.YtenkkekooimpjaaGreatDoor.Ev.FV.int .i64 6, Go.Proofs.YtenkkekooimpjaaGreatDoor.Ev.FV.str (ByteArray.mk #[113, 117, 97, 115, 105, 115, 121, 110, 116, 97, 120]), Go.Proofs.YtenkkekooimpjaaGreatDoor.Ev.FV.str (ByteArray.mk #[35, 44]), Go.Proofs.YtenkkekooimpjaaGreatDoor.Ev.FV.int .i64 6, Go.Proofs.YtenkkekooimpjaaGreatDoor.Ev.FV.str (ByteArray.mk #[117, 110, 115, 121, 110, 116, 97, 120]), Go.Proofs.YtenkkekooimpjaaGreatDoor.Ev.FV.str (ByteArray.mk #[44, 64]), Go.Proofs.YtenkkekooimpjaaGreatDoor.Ev.FV.int .i64 6, Go.Proofs.YtenkkekooimpjaaGreatDoor.Ev.FV.str (ByteArray.mk #[117, 110, 113, 117, 111, 116, 101, 45, 115, 112, 108, 105, 99, 105, 110, 103]), Go.Proofs.YtenkkekooimpjaaGreatDoor.Ev.FV.str (ByteArray.mk #[40]), Go.Proofs.YtenkkekooimpjaaGreatDoor.Ev.FV.int .i64 1, Go.Proofs.YtenkkekooimpjaaGreatDoor.Ev.FV.str (ByteArray.mk #[]), Go.Proofs.YtenkkekooimpjaaGreatDoor.Ev.FV.str (ByteArray.mk #[41]), Go.Proofs.YtenkkekooimpjaaGreatDoor.Ev.FV.int .i64 2, Go.Proofs.YtenkkekooimpjaaGreatDoor.Ev.FV.str (ByteArray.mk #[]), Go.Proofs.YtenkkekooimpjaaGreatDoor.Ev.FV.str (ByteArray.mk #[39]), Go.Proofs.YtenkkekooimpjaaGreatDoor.Ev.FV.int .i64 6, Go.Proofs.YtenkkekooimpjaaGreatDoor.Ev.FV.str (ByteArray.mk #[113, 117, 111, 116, 101]), Go.Proofs.YtenkkekooimpjaaGreatDoor.Ev.FV.str (ByteArray.mk #[96]), Go.Proofs.YtenkkekooimpjaaGreatDoor.Ev.FV.int .i64 6, Go.Proofs.YtenkkekooimpjaaGreatDoor.Ev.FV.str (ByteArray.mk #[113, 117, 97, 115, 105, 113, 117, 111, 116, 101]), Go.Proofs.YtenkkekooimpjaaGreatDoor.Ev.FV.str (ByteArray.mk #[44]), Go.Proofs.YtenkkekooimpjaaGreatDoor.Ev.FV.int .i64 6, Go.Proofs.YtenkkekooimpjaaGreatDoor.Ev.FV.str (ByteArray.mk #[117, 110, 113, 117, 111, 116, 101])]) (m := 8) hM (by kernel_rfl) (List.mem_of_getElem? (i := 7) (by kernel_rfl)) (g := 0) (t := 150) (by kernel_rfl) (by kernel_rfl) (by kernel_rfl)
 ·exact tabAt_flat_of (n := "marginalia/utf.names") (d := Rows.laid_marginalia_utf_names) (fs := [Go.Proofs.YtenkkekooimpjaaGreatDoor.Ev.FV.int .i64 32, Go.Proofs.YtenkkekooimpjaaGreatDoor.Ev.FV.str (ByteArray.mk #[115, 112, 97, 99, 101]), Go.Proofs.YtenkkekooimpjaaGreatDoor.Ev.FV.int .i64 10, Go.Proofs.YtenkkekooimpjaaGreatDoor.Ev.FV.str (ByteArray.mk #[110, 101, 119, 108, 105, 110, 101]), Go.Proofs.YtenkkekooimpjaaGreatDoor.Ev.FV.int .i64 9, Go.Proofs.YtenkkekooimpjaaGreatDoor.Ev.FV.str (ByteArray.mk #[116, 97, 98]), Go.Proofs.YtenkkekooimpjaaGreatDoor.Ev.FV.int .i64 13, Go.Proofs.YtenkkekooimpjaaGreatDoor.Ev.FV.str (ByteArray.mk #[114, 101, 116, 117, 114, 110]), Go.Proofs.YtenkkekooimpjaaGreatDoor.Ev.FV.int .i64 0, Go.Proofs.YtenkkekooimpjaaGreatDoor.Ev.FV.str (ByteArray.mk #[110, 117, 108, 108]), Go.Proofs.YtenkkekooimpjaaGreatDoor.Ev.FV.int .i64 127, Go.Proofs.YtenkkekooimpjaaGreatDoor.Ev.FV.str (ByteArray.mk #[100, 101, 108, 101, 116, 101])]) (m := 8) hM (by kernel_rfl) (List.mem_of_getElem? (i := 6) (by kernel_rfl)) (g := 1) (t := 161) (by kernel_rfl) (by kernel_rfl) (by kernel_rfl)
 ·exact tabAt_flat_of (n := "unicode/utf8.first") (d := Rows.laid_unicode_utf8_first) (fs := (List.range 256).map fun c => Go.Proofs.YtenkkekooimpjaaGreatDoor.Ev.FV.int .u8 ((Go.Lib.firstT c : Nat) : Int)) (m := 8) hM (by kernel_rfl) (List.mem_of_getElem? (i := 8) (by kernel_rfl)) (g := 2) (t := 175) (by kernel_rfl) (by kernel_rfl) (by kernel_rfl)
 ·exact tabAt_flat_of (n := "unicode/utf8.acceptRanges") (d := Rows.laid_unicode_utf8_acceptRanges) (fs := ((List.range 16).map fun i => [Go.Proofs.YtenkkekooimpjaaGreatDoor.Ev.FV.int .u8 ((Go.Lib.accLo i : Nat) : Int), Go.Proofs.YtenkkekooimpjaaGreatDoor.Ev.FV.int .u8 ((Go.Lib.accHi i : Nat) : Int)]).flatten) (m := 8) hM (by kernel_rfl) (List.mem_of_getElem? (i := 3) (by kernel_rfl)) (g := 3) (t := 178) (by kernel_rfl) (by kernel_rfl) (by kernel_rfl)
 ·exact tabAt_flat_of (n := "internal/strconv.uint64pow10") (d := Rows.laid_internal_strconv_uint64pow10) (fs := (List.range 20).map fun i => Go.Proofs.YtenkkekooimpjaaGreatDoor.Ev.FV.int .u64 ((10 ^ i : Nat) : Int)) (m := 8) hM (by kernel_rfl) (List.mem_of_getElem? (i := 2) (by kernel_rfl)) (g := 4) (t := 235) (by kernel_rfl) (by kernel_rfl) (by kernel_rfl)
 ·exact tabAt_ifc_of (n := "strconv.ErrSyntax") (d := Rows.laid_strconv_ErrSyntax) hM (by kernel_rfl) (List.mem_of_getElem? (i := 5) (by kernel_rfl)) (g := 6) (t := 131) (by kernel_rfl) (by kernel_rfl) Tryz.underlying131
 ·exact tabAt_ifc_of (n := "strconv.ErrRange") (d := Rows.laid_strconv_ErrRange) hM (by kernel_rfl) (List.mem_of_getElem? (i := 4) (by kernel_rfl)) (g := 7) (t := 131) (by kernel_rfl) (by kernel_rfl) Tryz.underlying131
 ·exact tabAt_flat_of (n := "math/bits.deBruijn64tab") (d := Rows.laid_math_bits_deBruijn64tab) (fs := [0, 1, 56, 2, 57, 49, 28, 3, 61, 58, 42, 50, 38, 29, 17, 4, 62, 47, 59, 36, 45, 43, 51, 22, 53, 39, 33, 30, 24, 18, 12, 5, 63, 55, 48, 27, 60, 41, 37, 16, 46, 35, 44, 21, 52, 32, 23, 11, 54, 26, 40, 15, 34, 20, 31, 10, 25, 14, 19, 9, 13, 8, 7, 6].map fun i => Go.Proofs.YtenkkekooimpjaaGreatDoor.Ev.FV.int .u8 i) (m := 8) hM (by kernel_rfl) (List.mem_of_getElem? (i := 1) (by kernel_rfl)) (g := 9) (t := 258) (by kernel_rfl) (by kernel_rfl) (by kernel_rfl)
set_option maxRecDepth 100000 in
theorem lifted (os : Os) (started : os.Started) (H : Type) (enc : TypeId × Value → H) :
  ReturnsInHanded {} Tryz.checked os 7 .any (fun w args => ((Rows.OpenSpec.upto Rows.readSameSpec).pre enc Tryz.prog Tryz.f7 Rows.readSameUptoRow.domain false w args ∧ laidMetH Tryz.prog Rows.readSameUptoRow.laid w) ∧ sizedMet enc Tryz.prog Tryz.f7 (Rows.OpenSpec.upto Rows.readSameSpec) false w args)
   (Rows.readSameSpec.post enc Tryz.prog Tryz.f7 false true false false) := by
 refine returnsIn_upto (C := Tryz.checked) (X := fun w _ => laidMetH Tryz.prog Rows.readSameUptoRow.laid w) (fun _ _ _ hh h => h.of_heap hh) own started (by kernel_rfl) Tryz.func7
  (witness_upto (enc := enc) (C := Tryz.checked) (os := os) (s := Rows.readSameSpec) (X := fun w _ => laidMetH Tryz.prog Rows.readSameUptoRow.laid w) (World.laidAll Tryz.prog os Rows.readSameUptoRow.laid) #[.agg #[.int .i64 0, .string ByteArray.empty, .bool false, .slice none 0 0, .slice none 0 0, .int .i64 0], .agg #[.int .i64 0, .string ByteArray.empty, .bool false, .slice none 0 0, .slice none 0 0, .int .i64 0], .int .i64 0] 8 (World.laidAll_os _ _ _) (World.shaped_of_ZipB (by kernel_rfl) (by kernel_rfl)) (by kernel_rfl) (by kernel_rfl) (by kernel_rfl) (door_met os _)) ?_
 intro W base args ds gs before hval0 hW hcnd hbk hsz0 hL
 have hsz : (DataW.weightsEach Tryz.prog (Tryz.f7.params.toList ++ Rows.readSameSpec.plain.varTypes Tryz.prog) (ds ++ gs)).all (· ≤ reachBytes) = true := hsz0
 have hval : ∀ (j : Nat) t v, Tryz.f7.params[j]? = some t → args[j]? = some v → Value.okWide Tryz.prog W .any base t v := hval0
 have hW' := hW
 obtain ⟨p, q, hA0, hV, rfl, hfz, hnd⟩ := hW
 have hA : DataW.TrodAll enc Tryz.prog W 0 (fun _ => true) true Tryz.f7.params.toList args.toList ds p := hA0
 rw [Tryz.params7] at hA hval hsz
 obtain ⟨rfl, rfl⟩ := trodVars_none hV
 have hA2 := hA
 obtain ⟨v0, vs0, d0, ds0, p0, q0, hargs, rfl, rfl, h0_, r0⟩ := trodAll_cons hA2
 obtain ⟨v1, vs1, d1, ds1, p1, q1, rfl, rfl, rfl, h1_, r1⟩ := trodAll_cons r0
 obtain ⟨v2, vs2, d2, ds2, p2, q2, rfl, rfl, rfl, h2_, r2⟩ := trodAll_cons r1
 obtain ⟨rfl, rfl, rfl⟩ := trodAll_nil r2
 obtain ⟨xs, h1, h2, h3, hb⟩ := openedAll (S := [33, 3, 9, 31, 4, 29, 81, 23]) (ts := [33, 33, 3]) (by kernel_rfl) (by decide) (fun j t v ht hv => hval j t v (by simpa using ht) (by simpa using hv)) hA (fun m hm => by simpa using List.all_eq_true.1 hsz m hm)
 refine ((law_ReadSame xs h1 (Nat.le_trans hb hbk)).door (glob hL) (by simpa using h2) (fun i x hx => by obtain ⟨v, hv, hr⟩ := h3 i x hx; exact ⟨v, by simpa using hv, hr⟩)).mono fun e W' ⟨he, bel⟩ => ?_
 subst he
 exact ⟨_, rfl, _, _, _, [], _, [], hW', trodAll_mk1 (shut_bool Tryz.underlying4 _), trodAll_below laidOut bel (ts := [33, 33, 3]) (by decide +kernel) hA, rfl, bel.frame _, fun h => by cases h⟩
theorem and_tt {a b : Bool} (ha : a = true) (hb : b = true) : (a && b) = true := by rw [ha, hb]; rfl
set_option maxHeartbeats 8000000 in
theorem over : Rows.readSameUptoRow.holds Tryz.pinned (Rows.OpenSpec.upto Rows.readSameSpec) :=
 OpenClaim.holds_of_cond 7 Tryz.f7 rfl rfl rfl rfl rfl rfl rfl ⟨rfl, rfl, rfl, rfl, rfl⟩ rfl rfl rfl rfl rfl (by as_aux_lemma => kernel_rfl) Tryz.func7 (by unfold joinedFacts; repeat' (with_reducible refine and_tt ?_ ?_); all_goals first | with_reducible exact cj_me | with_reducible exact cj_lf | with_reducible exact cj_laid | with_reducible exact cj_maps | with_reducible exact cj_pk | with_reducible exact cj_sh | with_reducible exact cj_inpl | with_reducible exact cj_unf | with_reducible exact cj_rec | with_reducible exact cj_vn | (as_aux_lemma => kernel_rfl))
  (of_decide_eq_true (by as_aux_lemma => kernel_rfl)) (by unfold Func.isWrapper; first | (rw [if_pos (by decide +kernel)]; kernel_rfl) | (rw [if_neg (by decide +kernel)]; exact ⟨rfl, rfl⟩))
  (fun os started H enc _ _ => lifted os started H enc)
end Go.Proofs.YtenkkekooimpjaaGreatDoor.readSame
end
