/-
  Part of a claim: definitions and lemmas that its theorem leans on, packed by wip/tools/pack.py.
-/
import Derived.Test.YtflmioakfboanaaDoorZTx2
import Derived.WalkKit
import Derived.Lib.Walk
import Derived.Laws.Externs
import Derived.Laws.Strings
import Derived.Lib.Strings
import Derived.Lib.Slices
import Derived.Lib.Builder
import Derived.Lib.AppendStr
import Derived.Lib.UnsafeStr
import Derived.Laws.BitsLemmas
import Derived.Shelf.Strings.Builder1
import Derived.Shelf.Strconv.Itoa3
import Derived.Shelf.Strings.Repeat
import Derived.Shelf.Strconv.AtoiAll
import Derived.Shelf.Strings.Prefix
import Derived.Shelf.Strings.SlTrimAscii
import Derived.Shelf.Strings.Trim
import Derived.Shelf.LaysM
import Derived.Lib.ItoaNum
import Derived.Lib.AppendIntMem
import Derived.Lib.AtoiAllCases
import Derived.Test.YtflmioakfboanaaDoorRows
import Derived.Test.YtflmioakfboanaaDoorTie
import Derived.Test.YtflmioakfboanaaDoorCards
import Derived.ProofKit
import Derived.ShutString
import Derived.LaidMore
import Derived.LaidLaws
import Derived.Stop.Joined
import Derived.SevenTiedAt
set_option linter.unusedVariables false
set_option linter.unusedSimpArgs false
section
set_option linter.unusedVariables false
set_option linter.unusedSimpArgs false
namespace Go.Proofs.YtflmioakfboanaaDoor.Ev
open Go
theorem mk_small (s : Bool) (v : Int) (h0 : 0 ≤ v) (hv : v < 1000000000 ^ 64) : mkS s v = bigN (if s = true then -v else v) ∧ mkL v = bigL (if s = true then -v else v) := by
  have h1 : (digs 10 v.toNat).length ≤ 576 := by
    rw [digs_len (by omega)]
    have h3 : (10 : Int) ^ 576 = 1000000000 ^ 64 := pow9 64
    have h4 : (((10 : Nat) ^ 576 : Nat) : Int) = 10 ^ 576 := cast_ten_pow 576
    omega
  have hb : mkB v = true := by unfold mkB; rw [if_neg (by omega)]
  obtain ⟨g1, g2, g3⟩ := (mk_out s v h0).1 hb
  obtain ⟨k1, k2, _⟩ := outT_small (z := if s = true then -v else v) (by
    have : ((if s = true then -v else v)).natAbs = v.toNat := by split <;> omega
    rw [this]
    have h4 : (((1000000000 : Nat) ^ 64 : Nat) : Int) = 1000000000 ^ 64 := by rw [Int.natCast_pow]; rfl
    omega)
  exact ⟨by rw [← g2, k1], by rw [← g3, k2]⟩
theorem rofInt_loop (n : Int) (R : TV → List Ob → Prop) : ∀ (u : Nat) (o : List Int), u < 18446744073709551616 → o.length + (digs 10 u).length ≤ 200 → Lim 10 o →
    (R (fzN (mkS (decide (n < 0)) (val 10 o + 10 ^ o.length * u)) (mkL (val 10 o + 10 ^ o.length * u))) []) → ref01_Of_L0 R n u (ints .u8 o) := by
  intro u
  induction u using Nat.strongRecOn with
  | _ u ih =>
    intro o hu hl hL hR
    refine ref01_Of_l0 ?_
    unfold ref01_Of_R0
    rcases Nat.eq_zero_or_pos u with rfl | hp
    · simp only [ints_len, ints_app, ints_snoc, ints_take, ints_drop, ints_set, ints_rep, ints_one, ex_rd, dec_t, dec_f, beq_t, beq_f, bne_t, bne_f, not_t, not_f, List.length_set, List.length_append, List.length_cons, List.length_nil, List.length_take, List.length_drop, List.length_replicate, Int.toNat_natCast, List.nil_append, Bool.not_true, Bool.not_false, Wk_nil, Wk_cons, wk1_same, wk1_f, and_true, true_and, Bool.false_eq_true, Bool.true_eq_false, false_implies, forall_const]
      have e : val 10 o + 10 ^ o.length * ((0 : Nat) : Int) = val 10 o := by simp
      rw [e] at hR
      exact ⟨fun h => by omega, fun _ => ⟨_, _, _, make_ok _ o (by omega) hL, hR⟩⟩
    · rw [digs_pos (by omega) hp] at hl
      have e1 : Int.tmod (u : Int) 10 = ((u % 10 : Nat) : Int) := by rw [Int.tmod_eq_emod_of_nonneg (by omega)]; omega
      have e2 : Int.tdiv (u : Int) 10 = ((u / 10 : Nat) : Int) := by rw [Int.tdiv_eq_ediv_of_nonneg (by omega)]; omega
      have e3 : IntKind.wrap .u8 ((u % 10 : Nat) : Int) = ((u % 10 : Nat) : Int) := wu8 (by omega) (by omega)
      have e4 : IntKind.wrap .u64 ((u / 10 : Nat) : Int) = ((u / 10 : Nat) : Int) := wu64 (by omega) (by omega)
      simp only [ints_len, ints_app, ints_snoc, ints_take, ints_drop, ints_set, ints_rep, ints_one, ex_rd, dec_t, dec_f, beq_t, beq_f, bne_t, bne_f, not_t, not_f, List.length_set, List.length_append, List.length_cons, List.length_nil, List.length_take, List.length_drop, List.length_replicate, Int.toNat_natCast, List.nil_append, Bool.not_true, Bool.not_false, Wk_nil, Wk_cons, wk1_same, wk1_f, and_true, true_and, Bool.false_eq_true, Bool.true_eq_false, false_implies, forall_const, e1, e2, e3, e4]
      simp only [List.length_cons] at hl
      refine ⟨fun _ => ⟨by omega, by omega, by omega, ih (u / 10) (Nat.div_lt_self hp (by omega)) (o ++ [((u % 10 : Nat) : Int)]) (by omega) (by simp; omega) (hL.snoc (by omega) (by omega)) ?_⟩, fun h => by omega⟩
      have e : val 10 (o ++ [((u % 10 : Nat) : Int)]) + 10 ^ (o ++ [((u % 10 : Nat) : Int)]).length * ((u / 10 : Nat) : Int) = val 10 o + 10 ^ o.length * (u : Int) := by
        rw [val_snoc, List.length_append, List.length_singleton, Int.pow_succ, Int.add_assoc, Int.mul_assoc, ← Int.mul_add]
        congr 2
        omega
      rw [e]; exact hR
theorem rofInt_ok (n : Int) (h0 : -9223372036854775808 ≤ n) (h1 : n ≤ 9223372036854775807) : Fn Tryd.prog 29 [fzI .i64 n] [] (fzN (bigN n) (bigL n)) [] := by
  refine ref01_Of_fn _ ?_
  have hlen : (digs 10 n.natAbs).length ≤ 200 := by
    have h : (digs 10 n.natAbs).length ≤ 20 := (digs_len (by omega) _ _).2 (by omega)
    omega
  have hmk := mk_small (decide (n < 0)) (n.natAbs : Int) (by omega) (by
    have : (10 : Int) ^ 20 ≤ 1000000000 ^ 64 := by rw [← pow9]; exact pow_mono (by omega) (by omega)
    omega)
  have e0 : (if decide (n < 0) = true then -(n.natAbs : Int) else (n.natAbs : Int)) = n := by simp only [decide_eq_true_eq]; split <;> omega
  rw [e0] at hmk
  have hv : val 10 [] + 10 ^ ([] : List Int).length * (n.natAbs : Int) = (n.natAbs : Int) := by simp [val]
  unfold ref01_Of_H
  rw [dec_t, dec_f]
  refine ⟨fun h => ?_, fun h => ?_⟩
  · have e : IntKind.wrap .u64 (0 - IntKind.wrap .u64 n) = (n.natAbs : Int) := by
      simp [IntKind.wrap, IntKind.bits, IntKind.signed]; omega
    rw [e]
    exact rofInt_loop n _ n.natAbs [] (by omega) (by simpa using hlen) (Lim.nil _) ⟨by rw [hv, hmk.1, hmk.2], rfl⟩
  · have e : IntKind.wrap .u64 n = (n.natAbs : Int) := by
      simp [IntKind.wrap, IntKind.bits, IntKind.signed]; omega
    rw [e]
    exact rofInt_loop n _ n.natAbs [] (by omega) (by simpa using hlen) (Lim.nil _) ⟨by rw [hv, hmk.1, hmk.2], rfl⟩
end Go.Proofs.YtflmioakfboanaaDoor.Ev
end
section
set_option linter.unusedVariables false
set_option linter.unusedSimpArgs false
namespace Go.Proofs.YtflmioakfboanaaDoor.Ev
open Go Go.Proofs
def bs (s : ByteArray) : List Int := s.data.toList.map fun c => (c.toNat : Int)
def Bytes (l : List Int) : Prop := Lim 256 l
theorem Bytes.nil : Bytes [] := Lim.nil _
theorem Bytes.append {l m : List Int} (h : Bytes l) (k : Bytes m) : Bytes (l ++ m) := Lim.append h k
theorem u8_back {n : Int} (h0 : 0 ≤ n) (h1 : n < 256) : ((UInt8.ofNat n.toNat).toNat : Int) = n := by
  rw [UInt8.toNat_ofNat']; omega
theorem bs_of {l : List Int} (h : Bytes l) : bs (bytesOf l) = l := by
  simp only [bs, bytesOf, List.map_map]
  conv => rhs; rw [← List.map_id l]
  refine List.map_congr_left fun x hx => ?_
  have := h x hx
  simpa using u8_back this.1 this.2
theorem size_of (l : List Int) : (bytesOf l).size = l.length := by
  show (bytesOf l).data.size = _
  simp [bytesOf]
theorem size_bs (s : ByteArray) : s.size = (bs s).length := by
  show s.data.size = _
  simp [bs]
theorem map_bs (s : ByteArray) : List.map (fun c : UInt8 => [FV.int .u8 ((c.toNat : Nat) : Int)]) (Array.toList (ByteArray.data s)) = ints .u8 (bs s) := by
  simp [ints, bs]
end Go.Proofs.YtflmioakfboanaaDoor.Ev
end
section
set_option linter.unusedVariables false
set_option maxRecDepth 100000
namespace Go.Proofs.YtflmioakfboanaaDoor.Ev
open Go
def WriteByteF_lv : List Nat → Keep := lvOf []
def WriteByteF_H (R : TV → List Ob → Prop) (c : Int) : Prop :=
  ((Fn Tryd.prog 75 [(TV.one (AV.ptr 0 0 0 0))] [(Ob.g 74 [(AV.fz FV.nilp), (AV.nsl 1)])] (TV.tup []) [(Ob.g 74 [(AV.ptr 0 0 0 0), (AV.nsl 1)])]) ∧ (((((List.length ([] : List (List FV))) + (List.length [[(FV.int .u8 c)]])) * 1) ≤ 140737488355328) ∧ (R (TV.one (AV.fz (FV.ifc false))) [(Ob.g 74 [(AV.ptr 0 0 0 0), (AV.ofl 1 1)]), (Ob.f 5 1 (([] : List (List FV)) ++ [[(FV.int .u8 c)]]))])))
theorem WriteByteF_fn (c : Int) {r : TV} {h : List Ob} (H : WriteByteF_H (fun r' h' => r' = r ∧ Wk h' h) c) : Fn Tryd.prog 58 [(TV.one (AV.ptr 0 0 0 0)), (TV.one (AV.fz (FV.int .u8 c)))] [(Ob.g 74 [(AV.fz FV.nilp), (AV.nsl 1)])] r h :=
  Fn.by_trW (M := (modeOf [] [(75, [(Sig.mk 1 [] [(OT.g 74 [(AT.a (AV.ptr 0 0 0 0)), (AT.a (AV.nsl 1))])] 0)])])) (lv := WriteByteF_lv) (own := (some 1)) (F := Tryd.f58) (by kernel_rfl) (by kernel_rfl) (by first | decide | simp) (by kernel_rfl) H
def WriteStringF_lv : List Nat → Keep := lvOf []
def WriteStringF_H (R : TV → List Ob → Prop) (s : ByteArray) : Prop :=
  ((Fn Tryd.prog 75 [(TV.one (AV.ptr 0 0 0 0))] [(Ob.g 74 [(AV.fz FV.nilp), (AV.nsl 1)])] (TV.tup []) [(Ob.g 74 [(AV.ptr 0 0 0 0), (AV.nsl 1)])]) ∧ (((((List.length ([] : List (List FV))) + (List.length (List.map (fun b5 => [(FV.int .u8 (((UInt8.toNat b5) : Nat) : Int))]) (Array.toList (ByteArray.data s))))) * 1) ≤ 140737488355328) ∧ (R (TV.tup [(false, [(AV.fz (FV.int .i64 (((ByteArray.size s) : Nat) : Int)))]), (false, [(AV.fz (FV.ifc false))])]) [(Ob.g 74 [(AV.ptr 0 0 0 0), (AV.ofl 1 1)]), (Ob.f 5 1 (([] : List (List FV)) ++ (List.map (fun b7 => [(FV.int .u8 (((UInt8.toNat b7) : Nat) : Int))]) (Array.toList (ByteArray.data s)))))])))
theorem WriteStringF_fn (s : ByteArray) {r : TV} {h : List Ob} (H : WriteStringF_H (fun r' h' => r' = r ∧ Wk h' h) s) : Fn Tryd.prog 60 [(TV.one (AV.ptr 0 0 0 0)), (TV.one (AV.fz (FV.str s)))] [(Ob.g 74 [(AV.fz FV.nilp), (AV.nsl 1)])] r h :=
  Fn.by_trW (M := (modeOf [] [(75, [(Sig.mk 1 [] [(OT.g 74 [(AT.a (AV.ptr 0 0 0 0)), (AT.a (AV.nsl 1))])] 0)])])) (lv := WriteStringF_lv) (own := (some 1)) (F := Tryd.f60) (by kernel_rfl) (by kernel_rfl) (by first | decide | simp) (by kernel_rfl) H
def WriteStringU_lv : List Nat → Keep := lvOf []
def WriteStringU_H (R : TV → List Ob → Prop) (s : ByteArray) (o : List (List FV)) : Prop :=
  (∃ es1 : List (List FV), ((Fn Tryd.prog 75 [(TV.one (AV.ptr 0 0 0 0))] [(Ob.g 74 [(AV.ptr 0 0 0 0), (AV.ofl 1 1)]), (Ob.f 5 1 o)] (TV.tup []) [(Ob.g 74 [(AV.ptr 0 0 0 0), (AV.ofl 1 1)]), (Ob.f 5 1 es1)]) ∧ (((((List.length es1) + (List.length (List.map (fun b5 => [(FV.int .u8 (((UInt8.toNat b5) : Nat) : Int))]) (Array.toList (ByteArray.data s))))) * 1) ≤ 140737488355328) ∧ (R (TV.tup [(false, [(AV.fz (FV.int .i64 (((ByteArray.size s) : Nat) : Int)))]), (false, [(AV.fz (FV.ifc false))])]) [(Ob.g 74 [(AV.ptr 0 0 0 0), (AV.ofl 1 2)]), Ob.no, (Ob.f 5 1 (es1 ++ (List.map (fun b7 => [(FV.int .u8 (((UInt8.toNat b7) : Nat) : Int))]) (Array.toList (ByteArray.data s)))))]))))
theorem WriteStringU_fn (s : ByteArray) (o : List (List FV)) {r : TV} {h : List Ob} (H : WriteStringU_H (fun r' h' => r' = r ∧ Wk h' h) s o) : Fn Tryd.prog 60 [(TV.one (AV.ptr 0 0 0 0)), (TV.one (AV.fz (FV.str s)))] [(Ob.g 74 [(AV.ptr 0 0 0 0), (AV.ofl 1 1)]), (Ob.f 5 1 o)] r h :=
  Fn.by_trW (M := (modeOf [] [(75, [(Sig.mk 2 [] [(OT.g 74 [(AT.a (AV.ptr 0 0 0 0)), (AT.a (AV.ofl 1 1))]), (OT.f 5 1)] 0)])])) (lv := WriteStringU_lv) (own := (some 2)) (F := Tryd.f60) (by kernel_rfl) (by kernel_rfl) (by first | decide | simp) (by kernel_rfl) H
end Go.Proofs.YtflmioakfboanaaDoor.Ev
end
section
set_option linter.unusedVariables false
namespace Go.Proofs.YtflmioakfboanaaDoor.Ev
open Go Go.RowKit
theorem sizeBuilder : (Tryd.prog.info? 74).map (·.size) = some 2 := by kernel_rfl
theorem liesBuilder : liesAt Tryd.prog Tryd.prog.depth 74 (2 / Tryd.prog.cellsOf 74) 0 74 1 = true := by kernel_rfl
theorem infoByte : (Tryd.prog.info? 5).map (fun i => (i.zero, i.size, i.bytes)) = some (some (.int .u8 0), 1, 1) := by kernel_rfl
set_option maxHeartbeats 1000000 in
set_option maxRecDepth 100000 in
theorem copyCheck_used (b : Nat) (w : World) (h0 : w.cell? ⟨b, 0, none⟩ = some (.pointer (some ⟨b, 0, none⟩))) :
    Calls Tryd.prog 75 #[.pointer (some ⟨b, 0, none⟩)] w fun e w' => e = .returned (.tuple #[]) ∧ w' = w := by
  obtain ⟨j, hj, _⟩ := Option.map_eq_some_iff.1 sizeBuilder
  go_enter Tryd.func75, Tryd.ntmps75
  go_wp2
  rw [Lib.run_neq_ptr_same w _ Tryd.underlying72 hj]
  go_wp2
  go_end0
  exact ⟨rfl, rfl⟩
set_option maxHeartbeats 1000000 in
set_option maxRecDepth 100000 in
theorem copyCheck_fresh (b : Nat) (w : World) (h0 : w.cell? ⟨b, 0, none⟩ = some (.pointer none)) (hsh : w.shape? b = some (74, 2)) (hfz : w.frozen? ⟨b, 0, none⟩ = false) :
    Calls Tryd.prog 75 #[.pointer (some ⟨b, 0, none⟩)] w fun e w' => e = .returned (.tuple #[]) ∧ w' = w.setCell ⟨b, 0, none⟩ (.pointer (some ⟨b, 0, none⟩)) := by
  obtain ⟨j, hj, hjs⟩ := Option.map_eq_some_iff.1 sizeBuilder
  go_enter Tryd.func75, Tryd.ntmps75
  go_wp2
  rw [Lib.run_to_unsafe w ⟨b, 0, none⟩ Tryd.underlying72 Tryd.underlying107 hj (by rw [hjs]; decide) hsh (Nat.zero_lt_succ 1)]
  simp only [Result.andThen]
  rw [Oper.upon_value]
  go_wp2
  rw [run_callFunc_extern Tryd.func97 (by kernel_rfl) (by kernel_rfl) (by kernel_rfl) (e := Extern.AbiNoEscape.same) (by kernel_rfl)]
  rw [Lib.run_noEscape]
  simp only [Result.andThen]
  rw [Oper.upon_value]
  go_wp2
  rw [Lib.run_from_unsafe w ⟨b, 0, none⟩ Tryd.underlying107 Tryd.underlying72 hj hsh liesBuilder]
  simp only [Result.andThen]
  rw [Oper.upon_value]
  go_wp2
  go_end0
  exact ⟨rfl, rfl⟩
theorem ptr_at {P : Program} {ext : Nat → Prop} {w0 : World} {own0 : Own0} {locs : Nat → Option Loc} {h : List Ob} {w : World} (H : RepH P ext w0 own0 locs h w) {gt : TypeId} {cs : List AV} {rest : List Ob} (hh : h = .g gt cs :: rest) {vals : Array Value}
    (hrep : ∀ (i : Nat) (x : TV), [TV.one (.ptr 0 0 0 0)][i]? = some x → ∃ v, vals[i]? = some v ∧ RT w (Bar ext locs h) locs x v) (hsz : vals.size = 1) :
    ∃ l b c, vals = #[.pointer (some ⟨b, 0, none⟩)] ∧ locs 0 = some l ∧ l.a = some ⟨b, 0, none⟩ ∧ w.heap[b]? = some (.cells c gt (0, 0)) ∧ c.size = cs.length ∧ l.sz = cs.length ∧ ∀ (j : Nat) (x : AV), cs[j]? = some x → ∃ v, c[j]? = some v ∧ RA w (Bar ext locs h) locs x v := by
  subst hh
  obtain ⟨v, hv, l, d, h1, h2, h3⟩ := hrep 0 _ rfl
  obtain ⟨l', h4, h5, b, c, h6, h7, h8, h9⟩ := H.get (o := 0) (ob := .g gt cs) rfl (by simp) (by simp)
  rw [h1] at h4; cases h4
  rw [h2] at h6; cases h6
  refine ⟨l, b, c, ?_, h1, h2, h7, h8, h5, h9⟩
  have : vals = #[v] := by
    apply Array.ext
    · simpa using hsz
    · intro i hi hi'
      have : i = 0 := by simp at hi'; omega
      subst this
      have := hv
      rw [Array.getElem?_eq_getElem (by omega)] at this
      simpa using this
  rw [this, h3]
  simp
theorem copyCheck_fn_used (a : AV) (rest : List Ob) : Fn Tryd.prog 75 [.one (.ptr 0 0 0 0)] (.g 74 [.ptr 0 0 0 0, a] :: rest) (.tup []) (.g 74 [.ptr 0 0 0 0, a] :: rest) := by
  intro ext w locs vals H hsz hrep
  obtain ⟨l, b, c, rfl, h1, h2, h3, h4, h5, h6⟩ := ptr_at H rfl hrep hsz
  obtain ⟨v0, g1, l', d, g2, g3, g4⟩ := h6 0 _ rfl
  rw [h1] at g2; cases g2
  rw [h2] at g3; cases g3
  have h0 : w.cell? ⟨b, 0, none⟩ = some (.pointer (some ⟨b, 0, none⟩)) := by simp [World.cell?, h3, g1, g4]
  refine (copyCheck_used b w h0).mono ?_
  rintro e w' ⟨rfl, rfl⟩
  exact ⟨_, locs, rfl, H, #[], rfl, rfl, by simp⟩
theorem copyCheck_fn_fresh (a : AV) (rest : List Ob) : Fn Tryd.prog 75 [.one (.ptr 0 0 0 0)] (.g 74 [.fz .nilp, a] :: rest) (.tup []) (.g 74 [.ptr 0 0 0 0, a] :: rest) := by
  intro ext w locs vals H hsz hrep
  obtain ⟨l, b, c, rfl, h1, h2, h3, h4, h5, h6⟩ := ptr_at H rfl hrep hsz
  obtain ⟨v0, g1, g2⟩ := h6 0 _ rfl
  cases inv_nilp (locs := locs) g2
  have h0 : w.cell? ⟨b, 0, none⟩ = some (.pointer none) := by simp [World.cell?, h3, g1]
  have hc2 : c.size = 2 := h4
  have hsh : w.shape? b = some (74, 2) := by simp [World.shape?, h3, hc2]
  refine (copyCheck_fresh b w h0 hsh (frozen_of_row w b 0 c _ h3)).mono ?_
  rintro e w' ⟨rfl, rfl⟩
  have hw : (w.setCell ⟨b, 0, none⟩ (.pointer (some ⟨b, 0, none⟩))).heap.size = w.heap.size := by simp [World.setCell]
  obtain ⟨H', lt⟩ := H.upd (w' := w.setCell ⟨b, 0, none⟩ (.pointer (some ⟨b, 0, none⟩))) (o := 0) (ob0 := .g 74 [.fz .nilp, a]) (ob := .g 74 [.ptr 0 0 0 0, a]) rfl rfl h1 h2
    (fun k hk hne => heap_setCell_other w _ k _ hne) (by rw [hw]; exact Nat.le_refl _) rfl rfl rfl (fun lt => by
      refine ⟨h5, b, _, h2, heap_setCell_same w b 0 c _ _ h3, by simpa using h4, fun j x hx => ?_⟩
      match j, hx with
      | 0, hx =>
        cases hx
        exact ⟨.pointer (some ⟨b, 0, none⟩), by simp [hc2], l, _, h1, h2, by simp⟩
      | 1, hx =>
        cases hx
        obtain ⟨u, hu, hr⟩ := h6 1 _ rfl
        exact ⟨u, by simpa using hu, hr.later lt (fun _ _ h => h)⟩)
  exact ⟨_, locs, rfl, H', #[], rfl, rfl, by simp⟩
end Go.Proofs.YtflmioakfboanaaDoor.Ev
end
section
set_option linter.unusedVariables false
namespace Go.Proofs.YtflmioakfboanaaDoor.Ev
open Go Go.RowKit
theorem liesAt_bytes_at {P : Program} {e : TypeId} (hc : P.cellsOf e = 1) (count off n : Nat) (hn : off + n ≤ count) : liesAt P P.depth e count off e n = true := by
  have hd : P.depth = (2 * (P.types.size + Made.depth) + 1) + 1 := rfl
  rw [hd]
  simp only [liesAt, Bool.or_eq_true]
  left
  rw [hd]
  simp [rowAt, hc, hn, sameLayout, Nat.mod_one]
theorem unsafeString_at {P : Program} (w : World) (pt it ty e : TypeId) (hp : P.underlying pt = some (.pointer e)) (hc : P.cellsOf e = 1) (g off cells : Nat) (hsh : w.shape? g = some (e, cells)) (l : List UInt8) (h0 : l ≠ []) (hn : off + l.length ≤ cells) (h63 : l.length ≤ 9223372036854775807)
    (hcell : ∀ j x, l[j]? = some x → w.cell? ((⟨g, off, none⟩ : Addr).add j) = some (.int .u8 x.toNat)) :
    (Builtin.unsafeString_ #[pt, it] ty #[.pointer (some ⟨g, off, none⟩), .int .i64 l.length]).run P w = .ok (.string ⟨l.toArray⟩) (w.freeze ⟨g, off, none⟩ l.length) := by
  have hl : l.length ≠ 0 := by simpa using h0
  have hlb := Lib.run_loadBytes (P := P) w l ⟨g, off, none⟩ .empty hcell
  have hlies := liesAt_bytes_at (P := P) hc (cells / P.cellsOf e) off l.length (by rw [hc]; simpa using hn)
  have h63' : ¬ (9223372036854775807 : Int) < (l.length : Int) := by omega
  have hdef : Builtin.unsafeString_ #[pt, it] ty #[.pointer (some ⟨g, off, none⟩), .int .i64 l.length] =
      (do
        let n ← asInt (.int .i64 l.length)
        if n < 0 then runtimePanic (.error "unsafe.String: len out of range")
        if n > IntKind.i64.max then unsupported (.unsafePointer "String: a length above the largest int")
        if n = 0 then pure (.string .empty)
        else if ← variablesAt ⟨g, off, none⟩ (← elemOf pt) n.toNat then do
          let s ← loadBytes ⟨g, off, none⟩ .empty n.toNat
          freeze ⟨g, off, none⟩ n.toNat
          pure (.string s)
        else unsupported (.unsafePointer "String: not so many bytes at ptr")) := rfl
  rw [hdef]
  have hmax : IntKind.i64.max = 9223372036854775807 := rfl
  have hneg : ¬ (l.length : Int) < 0 := by omega
  simp [asInt, asIntOf, hmax, h63', hneg, hl, variablesAt, hsh, elemOf, run_underlying hp, hlies, hlb]
set_option maxHeartbeats 2000000 in
set_option maxRecDepth 100000 in
theorem String_run (b g off cap cells : Nat) (p : Value) (w : World) (l : List UInt8) (h0 : l ≠ []) (hbk : w.heap[b]? = some (.cells #[p, .slice (some ⟨g, off, none⟩) l.length cap] 74 (0, 0))) (hc0 : cap ≠ 0)
    (hsh : w.shape? g = some (5, cells)) (hn : off + l.length ≤ cells) (h63 : l.length ≤ 9223372036854775807)
    (hcell : ∀ j x, l[j]? = some x → w.cell? ((⟨g, off, none⟩ : Addr).add j) = some (.int .u8 x.toNat)) :
    Calls Tryd.prog 62 #[.pointer (some ⟨b, 0, none⟩)] w fun e w' => e = .returned (.string ⟨l.toArray⟩) ∧ (w' = w.freeze ⟨g, off, none⟩ l.length ∨ w' = (w.freeze ⟨g, off, none⟩ l.length).drew ∨ w' = w.drew.freeze ⟨g, off, none⟩ l.length) := by
  have c1 : w.cell? ⟨b, 1, none⟩ = some (.slice (some ⟨g, off, none⟩) l.length cap) := by rw [Lib.cell_of_heap hbk]; rfl
  have c1' : w.drew.cell? ⟨b, 1, none⟩ = some (.slice (some ⟨g, off, none⟩) l.length cap) := c1
  have hSD : ∀ w : World, (Builtin.unsafeSliceData_ #[46] 92 #[.slice (some ⟨g, off, none⟩) l.length cap]).run Tryd.prog w = .ok (.pointer (some ⟨g, off, none⟩)) w := fun w => Lib.run_unsafeSliceData_row w _ _ _ _ _ hc0
  have hUS := unsafeString_at (P := Tryd.prog) w 92 3 9 5 Tryd.underlying92 (by kernel_rfl) g off cells hsh l h0 hn h63 hcell
  have hUS' := unsafeString_at (P := Tryd.prog) w.drew 92 3 9 5 Tryd.underlying92 (by kernel_rfl) g off cells hsh l h0 hn h63 hcell
  have mixed : Tryd.prog.follows .mixedOrders = true := by kernel_rfl
  go_enter Tryd.func62, Tryd.ntmps62
  go_wp2
  go_region_o
  all_goals (go_wp2; go_ret; first | exact ⟨rfl, .inl rfl⟩ | exact ⟨rfl, .inr (.inl rfl)⟩ | exact ⟨rfl, .inr (.inr rfl)⟩)
theorem heap_freeze_other (w : World) (a : Addr) (n k : Nat) (h : k ≠ a.block) : (w.freeze a n).heap[k]? = w.heap[k]? := by
  unfold World.freeze
  split
  · rfl
  · simp only [Array.getElem?_modify]
    rw [if_neg (fun e => h e.symm)]
theorem heap_freeze_same (w : World) (a : Addr) (n : Nat) {c : Array Value} {t : TypeId} {z : Nat × Nat} (h : w.heap[a.block]? = some (.cells c t z)) : ∃ z', (w.freeze a n).heap[a.block]? = some (.cells c t z') := by
  unfold World.freeze
  split
  · exact ⟨_, h⟩
  · simp only [Array.getElem?_modify, if_true, h, Option.map_some]
    exact ⟨_, rfl⟩
theorem size_freeze (w : World) (a : Addr) (n : Nat) : (w.freeze a n).heap.size = w.heap.size := by
  unfold World.freeze
  split
  · rfl
  · simp
def bytesRow (ns : List Int) : List (List FV) := ns.map fun n => [FV.int .u8 n]
theorem String_fn (a0 : AV) (ns : List Int) (hne : ns ≠ []) (hb : ∀ n ∈ ns, 0 ≤ n ∧ n < 256) (h63 : ns.length ≤ 9223372036854775807) :
    Fn Tryd.prog 62 [.one (.ptr 0 0 0 0)] [.g 74 [a0, .ofl 1 1], .f 5 1 (bytesRow ns)] (.one (.fz (.str (bytesOf ns)))) [.g 74 [a0, .ofl 1 1], .z 1 (bytesRow ns)] := by
  intro ext w locs vals H hsz hrep
  obtain ⟨l, b, c, rfl, h1, h2, h3, h4, h5, h6⟩ := ptr_at H rfl hrep hsz
  obtain ⟨v1, g1, l1, a, cp, k1, k2, rfl, k3, k4, k5⟩ := h6 1 _ rfl
  obtain ⟨l', j1, hob⟩ := H.get (o := 1) (ob := .f 5 1 (bytesRow ns)) rfl (by simp) (by simp)
  rw [k1] at j1; cases j1
  obtain ⟨m1, m2, m3⟩ := hob
  have hlen : (bytesRow ns).length = ns.length := by simp [bytesRow]
  have hpos : 0 < ns.length := List.length_pos_iff.2 hne
  rcases m3 with ⟨e, _⟩ | ⟨g, off, cc, ty, n1, n2, n3, n4, n5, n6⟩
  · rw [e] at hlen; simp at hlen; omega
  · have hty : ty = 5 := n3.resolve_left (by decide)
    subst hty
    have hcp : cp ≠ 0 := by omega
    have ha : a = some ⟨g, off, none⟩ := by rw [← n1]; exact k5.resolve_left hcp
    subst ha
    have hcell : ∀ (j : Nat) (x : UInt8), (ns.map fun n => UInt8.ofNat n.toNat)[j]? = some x → w.cell? ((⟨g, off, none⟩ : Addr).add j) = some (.int .u8 x.toNat) := by
      intro j x hx
      simp only [List.getElem?_map, Option.map_eq_some_iff] at hx
      obtain ⟨n, hn, rfl⟩ := hx
      obtain ⟨_, h8⟩ := n6 j [FV.int .u8 n] (by simp [bytesRow, hn])
      obtain ⟨v, hv, hr⟩ := h8 0 _ rfl
      cases hr
      obtain ⟨r1, r2⟩ := hb n (List.mem_of_getElem? hn)
      have e1 : (⟨g, off, none⟩ : Addr).add j = ⟨g, off + j, none⟩ := by
        unfold Addr.add
        by_cases hj : j = 0
        · subst hj; rfl
        · simp [hj]
      have e2 : ((UInt8.ofNat n.toNat).toNat : Int) = n := by
        rw [UInt8.toNat_ofNat']
        omega
      rw [e1, e2]
      simp only [World.cell?, n2]
      simpa using hv
    have hbk : w.heap[b]? = some (.cells #[c[0]'(by rw [h4]; simp), .slice (some ⟨g, off, none⟩) (ns.map fun n => UInt8.ofNat n.toNat).length cp] 74 (0, 0)) := by
      rw [h3]
      congr 2
      apply Array.ext
      · simpa using h4
      · intro i hi hi'
        have hi2 : i < 2 := by simpa using hi'
        have hl : (ns.map fun n => UInt8.ofNat n.toNat).length = l1.len := by rw [m2, hlen]; simp
        match i, hi2 with
        | 0, _ => simp
        | 1, _ =>
          have := g1
          rw [Array.getElem?_eq_getElem (by rw [h4]; simp)] at this
          have := Option.some.inj this
          simpa [hl] using this
    refine (String_run b g off cp cc.size _ w (ns.map fun n => UInt8.ofNat n.toNat) (by simpa using hne) hbk hcp (by simp [World.shape?, n2]) (by simp; rw [hlen] at n5; omega) (by simpa using h63) hcell).mono ?_
    rintro e w' ⟨rfl, hw⟩
    have hfacts : (∀ k, k ≠ g → w'.heap[k]? = w.heap[k]?) ∧ (∃ z, w'.heap[g]? = some (.cells cc 5 z)) ∧ w'.heap.size = w.heap.size ∧ w'.os = w.os ∧ w'.tape = w.tape ∧ w'.output = w.output := by
      have base : ∀ w1 : World, w1.heap = w.heap → w1.os = w.os → w1.tape = w.tape → w1.output = w.output → ∀ n, (∀ k, k ≠ g → (w1.freeze ⟨g, off, none⟩ n).heap[k]? = w.heap[k]?) ∧ (∃ z, (w1.freeze ⟨g, off, none⟩ n).heap[g]? = some (.cells cc 5 z)) ∧ (w1.freeze ⟨g, off, none⟩ n).heap.size = w.heap.size ∧ (w1.freeze ⟨g, off, none⟩ n).os = w.os ∧ (w1.freeze ⟨g, off, none⟩ n).tape = w.tape ∧ (w1.freeze ⟨g, off, none⟩ n).output = w.output := by
        intro w1 e1 e2 e3 e4 n
        refine ⟨fun k hk => by rw [heap_freeze_other w1 _ n k hk, e1], heap_freeze_same w1 ⟨g, off, none⟩ n (by rw [e1]; exact n2), by rw [size_freeze, e1], ?_, ?_, ?_⟩ <;> (unfold World.freeze; split <;> assumption)
      rcases hw with rfl | rfl | rfl
      · exact base w rfl rfl rfl rfl _
      · exact base w rfl rfl rfl rfl _
      · exact base w.drew rfl rfl rfl rfl _
    obtain ⟨q1, ⟨z, q2⟩, q3, q4, q5, q6⟩ := hfacts
    have hne' : b ≠ g := by
      have := H.apart 0 1 l l1 _ _ _ _ (by simp) rfl rfl rfl rfl h1 k1 h2 n1
      exact this
    have st := H.step (w' := w') (locs' := locs) (h' := [.g 74 [a0, .ofl 1 1], .z 1 (bytesRow ns)]) (fun o => o = 1) (fun k => k = g) (fun k _ hk => q1 k hk) (by omega) q4 q5 q6
      (fun k _ hk => ⟨1, l1, _, _, rfl, rfl, k1, n1, hk.symm⟩) (fun _ _ h => h) (fun o ho => H.len o (by simpa using ho))
      (fun o ob hc ho => by
        match o, ho with
        | 0, ho => cases ho; exact ⟨rfl, rfl⟩
        | 1, _ => exact absurd rfl hc)
      (fun o lo ob d hc ho hlv hlo hd => by
        match o, ho with
        | 0, ho => rw [h1] at hlo; cases hlo; rw [h2] at hd; cases hd; exact hne'
        | 1, _ => exact absurd rfl hc)
      (fun k hk => by
        rintro ⟨o, lo, d, ob, r1, r2, r3, r4, rfl⟩
        match o, r1 with
        | 0, r1 => cases r1; exact ⟨0, lo, d, _, rfl, rfl, r3, r4, rfl⟩
        | 1, r1 => cases r1; cases r2)
      (fun o o' lo lo' ob ob' d d' hc hne ho ho' hlv => by subst hc; cases ho; cases hlv)
      (fun lt o ob hc ho => by
        subst hc
        cases ho
        refine .inr (.inr ⟨l1, k1, m1, m2, .inr ⟨g, off, n1, fun i e he => ?_⟩⟩)
        obtain ⟨s1, s2⟩ := n6 i e he
        refine ⟨s1, fun j x hx => ?_⟩
        obtain ⟨v, hv, hr⟩ := s2 j x hx
        refine ⟨?_, v, by simp only [World.cell?, q2]; exact hv, hr.later lt⟩
        rintro (hx' | ⟨o, lo, d, ob, r1, r2, r3, r4, r5⟩)
        · exact H.extOwn g hx' ⟨1, l1, _, _, rfl, rfl, k1, n1, rfl⟩
        · match o, r1 with
          | 0, r1 => cases r1; rw [h1] at r3; cases r3; rw [h2] at r4; cases r4; exact hne' r5
          | 1, r1 => cases r1; cases r2)
    exact ⟨_, locs, rfl, st.1, RF.str _⟩
end Go.Proofs.YtflmioakfboanaaDoor.Ev
end
section
set_option linter.unusedVariables false
set_option linter.unusedSimpArgs false
namespace Go.Proofs.YtflmioakfboanaaDoor.Ev
open Go
abbrev bF : List Ob := [.g 74 [.fz .nilp, .nsl 1]]
abbrev bU (l : List Int) : List Ob := [.g 74 [.ptr 0 0 0 0, .ofl 1 1], .f 5 1 (ints .u8 l)]
abbrev bV (l : List Int) : List Ob := [.g 74 [.ptr 0 0 0 0, .ofl 1 2], .no, .f 5 1 (ints .u8 l)]
abbrev p0 : TV := .one (.ptr 0 0 0 0)
abbrev wsR (n : Int) : TV := .tup [(false, [.fz (.int .i64 n)]), (false, [.fz (.ifc false)])]
theorem writeByteF_ok (c : Int) : Fn Tryd.prog 58 [p0, fzI .u8 c] bF (.one (.fz (.ifc false))) (bU [c]) := by
  refine WriteByteF_fn _ ?_
  unfold WriteByteF_H
  simp only [ints_len, ints_app, ints_snoc, ints_take, ints_drop, ints_set, ints_rep, ints_one, ex_rd, dec_t, dec_f, beq_t, beq_f, bne_t, bne_f, not_t, not_f, List.length_set, List.length_append, List.length_cons, List.length_nil, List.length_take, List.length_drop, List.length_replicate, Int.toNat_natCast, List.nil_append, Bool.not_true, Bool.not_false, Wk_nil, Wk_cons, wk1_same, wk1_f, and_true, true_and, Bool.false_eq_true, Bool.true_eq_false, false_implies, forall_const]
  exact ⟨copyCheck_fn_fresh _ _, by omega⟩
theorem writeStringF_ok (s : ByteArray) (hs : (bs s).length ≤ 100000000) : Fn Tryd.prog 60 [p0, .one (.fz (.str s))] bF (wsR (bs s).length) (bU (bs s)) := by
  refine WriteStringF_fn _ ?_
  unfold WriteStringF_H
  simp only [map_bs, size_bs]
  simp only [ints_len, ints_app, ints_snoc, ints_take, ints_drop, ints_set, ints_rep, ints_one, ex_rd, dec_t, dec_f, beq_t, beq_f, bne_t, bne_f, not_t, not_f, List.length_set, List.length_append, List.length_cons, List.length_nil, List.length_take, List.length_drop, List.length_replicate, Int.toNat_natCast, List.nil_append, Bool.not_true, Bool.not_false, Wk_nil, Wk_cons, wk1_same, wk1_f, and_true, true_and, Bool.false_eq_true, Bool.true_eq_false, false_implies, forall_const]
  exact ⟨copyCheck_fn_fresh _ _, by omega⟩
theorem writeStringU_ok (s : ByteArray) (l : List Int) (hs : (bs s).length ≤ 100000000) (hl : l.length ≤ 100000000) : Fn Tryd.prog 60 [p0, .one (.fz (.str s))] (bU l) (wsR (bs s).length) (bV (l ++ bs s)) := by
  refine WriteStringU_fn _ _ ?_
  unfold WriteStringU_H
  refine ⟨_, copyCheck_fn_used _ _, ?_⟩
  simp only [map_bs, size_bs]
  simp only [ints_len, ints_app, ints_snoc, ints_take, ints_drop, ints_set, ints_rep, ints_one, ex_rd, dec_t, dec_f, beq_t, beq_f, bne_t, bne_f, not_t, not_f, List.length_set, List.length_append, List.length_cons, List.length_nil, List.length_take, List.length_drop, List.length_replicate, Int.toNat_natCast, List.nil_append, Bool.not_true, Bool.not_false, Wk_nil, Wk_cons, wk1_same, wk1_f, and_true, true_and, Bool.false_eq_true, Bool.true_eq_false, false_implies, forall_const]
  omega
theorem stringU_ok (l : List Int) (hne : l ≠ []) (hb : Bytes l) (hl : l.length ≤ 100000000) :
    Fn Tryd.prog 62 [p0] (bU l) (.one (.fz (.str (bytesOf l)))) [.g 74 [.ptr 0 0 0 0, .ofl 1 1], .z 1 (ints .u8 l)] :=
  String_fn _ l hne (fun n hn => hb n hn) (by omega)
end Go.Proofs.YtflmioakfboanaaDoor.Ev
end
section
set_option linter.unusedVariables false
set_option maxRecDepth 100000
namespace Go.Proofs.YtflmioakfboanaaDoor.Ev
open Go
def num_Text_lv : List Nat → Keep := lvOf [([0, 1, 0, 1, 1, 1, 1, 1], ⟨26, 0, [], true⟩)]
def num_Text_S0 (x0 : Bool) (x1 : List (List FV)) (i : Int) (es : List (List FV)) : St := (St.mk [TV.und, (TV.one (AV.ptr 0 0 0 0)), TV.und, (TV.one (AV.ptr 1 0 0 0)), (TV.one (AV.fz (FV.int .i64 i))), TV.und, TV.und, TV.und, TV.und, TV.und, TV.und, TV.und, TV.und, TV.und, TV.und, TV.und, TV.und, TV.und, TV.und, TV.und, TV.und, TV.und, TV.und, TV.und, TV.und, TV.und, TV.und, TV.und, TV.und, TV.und, TV.und, TV.und, TV.und, TV.und, TV.und, TV.und, TV.und, TV.und, TV.und, TV.und, TV.und, TV.und, TV.und, TV.und, TV.und] [(Ob.g 24 [(AV.fz (FV.bool x0)), (AV.fz (FV.sl 1 x1))]), (Ob.g 74 [(AV.ptr 1 0 0 0), (AV.ofl 1 2)]), (Ob.f 5 1 es)])
def num_Text_L0 (R : TV → List Ob → Prop) (x0 : Bool) (x1 : List (List FV)) (i : Int) (es : List (List FV)) : Prop := LoopAt Tryd.prog (modeOf [] [(58, [(Sig.mk 1 [(false, [(AT.a (AV.fz (FV.ifc false)))])] [(OT.g 74 [(AT.a (AV.ptr 0 0 0 0)), (AT.a (AV.ofl 1 1))]), (OT.f 5 1)] 0), (Sig.mk 2 [(false, [(AT.a (AV.fz (FV.ifc false)))])] [(OT.g 74 [(AT.a (AV.ptr 0 0 0 0)), (AT.a (AV.ofl 1 2))]), OT.no, (OT.f 5 1)] 0)]), (60, [(Sig.mk 1 [(false, [(AT.k (CK.int .i64))]), (false, [(AT.a (AV.fz (FV.ifc false)))])] [(OT.g 74 [(AT.a (AV.ptr 0 0 0 0)), (AT.a (AV.ofl 1 1))]), (OT.f 5 1)] 0), (Sig.mk 2 [(false, [(AT.k (CK.int .i64))]), (false, [(AT.a (AV.fz (FV.ifc false)))])] [(OT.g 74 [(AT.a (AV.ptr 0 0 0 0)), (AT.a (AV.ofl 1 2))]), OT.no, (OT.f 5 1)] 0)]), (62, [(Sig.mk 2 [(false, [(AT.k CK.str)])] [(OT.g 74 [(AT.a (AV.ptr 0 0 0 0)), (AT.a (AV.ofl 1 1))]), (OT.z 1)] 0)])]) num_Text_lv Tryd.f33 none R [1, 1, 1, 1, 1, 0, 1, 0] (num_Text_S0 x0 x1 i es)
def num_Text_S1 (x0 : Bool) (x1 : List (List FV)) : St := (St.mk [TV.und, (TV.one (AV.ptr 0 0 0 0)), TV.und, (TV.one (AV.ptr 1 0 0 0)), (TV.one (AV.fz (FV.int .i64 (IntKind.wrap .i64 ((((List.length x1) : Nat) : Int) - 1))))), TV.und, TV.und, TV.und, TV.und, TV.und, TV.und, TV.und, TV.und, TV.und, TV.und, TV.und, TV.und, TV.und, TV.und, TV.und, TV.und, TV.und, TV.und, TV.und, TV.und, TV.und, TV.und, TV.und, TV.und, TV.und, TV.und, TV.und, TV.und, TV.und, TV.und, TV.und, TV.und, TV.und, TV.und, TV.und, TV.und, TV.und, TV.und, TV.und, TV.und] [(Ob.g 24 [(AV.fz (FV.bool x0)), (AV.fz (FV.sl 1 x1))]), (Ob.g 74 [(AV.fz FV.nilp), (AV.nsl 1)])])
def num_Text_L1 (R : TV → List Ob → Prop) (x0 : Bool) (x1 : List (List FV)) : Prop := LoopAt Tryd.prog (modeOf [] [(58, [(Sig.mk 1 [(false, [(AT.a (AV.fz (FV.ifc false)))])] [(OT.g 74 [(AT.a (AV.ptr 0 0 0 0)), (AT.a (AV.ofl 1 1))]), (OT.f 5 1)] 0), (Sig.mk 2 [(false, [(AT.a (AV.fz (FV.ifc false)))])] [(OT.g 74 [(AT.a (AV.ptr 0 0 0 0)), (AT.a (AV.ofl 1 2))]), OT.no, (OT.f 5 1)] 0)]), (60, [(Sig.mk 1 [(false, [(AT.k (CK.int .i64))]), (false, [(AT.a (AV.fz (FV.ifc false)))])] [(OT.g 74 [(AT.a (AV.ptr 0 0 0 0)), (AT.a (AV.ofl 1 1))]), (OT.f 5 1)] 0), (Sig.mk 2 [(false, [(AT.k (CK.int .i64))]), (false, [(AT.a (AV.fz (FV.ifc false)))])] [(OT.g 74 [(AT.a (AV.ptr 0 0 0 0)), (AT.a (AV.ofl 1 2))]), OT.no, (OT.f 5 1)] 0)]), (62, [(Sig.mk 2 [(false, [(AT.k CK.str)])] [(OT.g 74 [(AT.a (AV.ptr 0 0 0 0)), (AT.a (AV.ofl 1 1))]), (OT.z 1)] 0)])]) num_Text_lv Tryd.f33 none R [1, 1, 1, 1, 1, 0, 1, 0] (num_Text_S1 x0 x1)
def num_Text_R0 (R : TV → List Ob → Prop) (x0 : Bool) (x1 : List (List FV)) (i : Int) (es : List (List FV)) : Prop :=
  ((((decide ((0 : Int) ≤ i)) = true) → (((0 : Int) ≤ i) ∧ (∃ n12 : Int, (((x1)[(Int.toNat i)]? = (some [(FV.int .u32 n12)])) ∧ (∃ s8 : ByteArray, ((Fn Tryd.prog 59 [(TV.one (AV.fz (FV.int .i64 (IntKind.wrap .i64 n12))))] [] (TV.one (AV.fz (FV.str s8))) []) ∧ ((((decide (i < (IntKind.wrap .i64 ((((List.length x1) : Nat) : Int) - 1)))) = true) → (∃ s9 : ByteArray, ((Fn Tryd.prog 61 [(TV.one (AV.fz (FV.str (ByteArray.mk #[48])))), (TV.one (AV.fz (FV.int .i64 (IntKind.wrap .i64 (9 - (((ByteArray.size s8) : Nat) : Int))))))] [] (TV.one (AV.fz (FV.str s9))) []) ∧ (∃ es12 : List (List FV), (∃ n13 : Int, ((Fn Tryd.prog 60 [(TV.one (AV.ptr 0 0 0 0)), (TV.one (AV.fz (FV.str s9)))] [(Ob.g 74 [(AV.ptr 0 0 0 0), (AV.ofl 1 1)]), (Ob.f 5 1 es)] (TV.tup [(false, [(AV.fz (FV.int .i64 n13))]), (false, [(AV.fz (FV.ifc false))])]) [(Ob.g 74 [(AV.ptr 0 0 0 0), (AV.ofl 1 2)]), Ob.no, (Ob.f 5 1 es12)]) ∧ (∃ es13 : List (List FV), (∃ n14 : Int, ((Fn Tryd.prog 60 [(TV.one (AV.ptr 0 0 0 0)), (TV.one (AV.fz (FV.str s8)))] [(Ob.g 74 [(AV.ptr 0 0 0 0), (AV.ofl 1 1)]), (Ob.f 5 1 es12)] (TV.tup [(false, [(AV.fz (FV.int .i64 n14))]), (false, [(AV.fz (FV.ifc false))])]) [(Ob.g 74 [(AV.ptr 0 0 0 0), (AV.ofl 1 2)]), Ob.no, (Ob.f 5 1 es13)]) ∧ (num_Text_L0 R x0 x1 (IntKind.wrap .i64 (i - 1)) es13)))))))))) ∧ (((decide (i < (IntKind.wrap .i64 ((((List.length x1) : Nat) : Int) - 1)))) = false) → (∃ es14 : List (List FV), (∃ n15 : Int, ((Fn Tryd.prog 60 [(TV.one (AV.ptr 0 0 0 0)), (TV.one (AV.fz (FV.str s8)))] [(Ob.g 74 [(AV.ptr 0 0 0 0), (AV.ofl 1 1)]), (Ob.f 5 1 es)] (TV.tup [(false, [(AV.fz (FV.int .i64 n15))]), (false, [(AV.fz (FV.ifc false))])]) [(Ob.g 74 [(AV.ptr 0 0 0 0), (AV.ofl 1 2)]), Ob.no, (Ob.f 5 1 es14)]) ∧ (num_Text_L0 R x0 x1 (IntKind.wrap .i64 (i - 1)) es14)))))))))))) ∧ (((decide ((0 : Int) ≤ i)) = false) → (∃ es15 : List (List FV), (∃ s10 : ByteArray, ((Fn Tryd.prog 62 [(TV.one (AV.ptr 0 0 0 0))] [(Ob.g 74 [(AV.ptr 0 0 0 0), (AV.ofl 1 1)]), (Ob.f 5 1 es)] (TV.one (AV.fz (FV.str s10))) [(Ob.g 74 [(AV.ptr 0 0 0 0), (AV.ofl 1 1)]), (Ob.z 1 es15)]) ∧ (R (TV.one (AV.fz (FV.str s10))) []))))))
theorem num_Text_l0 {R : TV → List Ob → Prop} {x0 : Bool} {x1 : List (List FV)} {i : Int} {es : List (List FV)} (h : num_Text_R0 R x0 x1 i es) : num_Text_L0 R x0 x1 i es :=
  LoopAt.by_tr (by kernel_rfl) (by kernel_rfl) h
def num_Text_R1 (R : TV → List Ob → Prop) (x0 : Bool) (x1 : List (List FV)) : Prop :=
  ((((decide ((0 : Int) ≤ (IntKind.wrap .i64 ((((List.length x1) : Nat) : Int) - 1)))) = true) → (((0 : Int) ≤ (IntKind.wrap .i64 ((((List.length x1) : Nat) : Int) - 1))) ∧ (∃ n12 : Int, (((x1)[(Int.toNat (IntKind.wrap .i64 ((((List.length x1) : Nat) : Int) - 1)))]? = (some [(FV.int .u32 n12)])) ∧ (∃ s8 : ByteArray, ((Fn Tryd.prog 59 [(TV.one (AV.fz (FV.int .i64 (IntKind.wrap .i64 n12))))] [] (TV.one (AV.fz (FV.str s8))) []) ∧ ((((decide ((IntKind.wrap .i64 ((((List.length x1) : Nat) : Int) - 1)) < (IntKind.wrap .i64 ((((List.length x1) : Nat) : Int) - 1)))) = true) → (∃ s9 : ByteArray, ((Fn Tryd.prog 61 [(TV.one (AV.fz (FV.str (ByteArray.mk #[48])))), (TV.one (AV.fz (FV.int .i64 (IntKind.wrap .i64 (9 - (((ByteArray.size s8) : Nat) : Int))))))] [] (TV.one (AV.fz (FV.str s9))) []) ∧ (∃ es12 : List (List FV), (∃ n13 : Int, ((Fn Tryd.prog 60 [(TV.one (AV.ptr 0 0 0 0)), (TV.one (AV.fz (FV.str s9)))] [(Ob.g 74 [(AV.fz FV.nilp), (AV.nsl 1)])] (TV.tup [(false, [(AV.fz (FV.int .i64 n13))]), (false, [(AV.fz (FV.ifc false))])]) [(Ob.g 74 [(AV.ptr 0 0 0 0), (AV.ofl 1 1)]), (Ob.f 5 1 es12)]) ∧ (∃ es13 : List (List FV), (∃ n14 : Int, ((Fn Tryd.prog 60 [(TV.one (AV.ptr 0 0 0 0)), (TV.one (AV.fz (FV.str s8)))] [(Ob.g 74 [(AV.ptr 0 0 0 0), (AV.ofl 1 1)]), (Ob.f 5 1 es12)] (TV.tup [(false, [(AV.fz (FV.int .i64 n14))]), (false, [(AV.fz (FV.ifc false))])]) [(Ob.g 74 [(AV.ptr 0 0 0 0), (AV.ofl 1 2)]), Ob.no, (Ob.f 5 1 es13)]) ∧ (num_Text_L0 R x0 x1 (IntKind.wrap .i64 ((IntKind.wrap .i64 ((((List.length x1) : Nat) : Int) - 1)) - 1)) es13)))))))))) ∧ (((decide ((IntKind.wrap .i64 ((((List.length x1) : Nat) : Int) - 1)) < (IntKind.wrap .i64 ((((List.length x1) : Nat) : Int) - 1)))) = false) → (∃ es14 : List (List FV), (∃ n15 : Int, ((Fn Tryd.prog 60 [(TV.one (AV.ptr 0 0 0 0)), (TV.one (AV.fz (FV.str s8)))] [(Ob.g 74 [(AV.fz FV.nilp), (AV.nsl 1)])] (TV.tup [(false, [(AV.fz (FV.int .i64 n15))]), (false, [(AV.fz (FV.ifc false))])]) [(Ob.g 74 [(AV.ptr 0 0 0 0), (AV.ofl 1 1)]), (Ob.f 5 1 es14)]) ∧ (num_Text_L0 R x0 x1 (IntKind.wrap .i64 ((IntKind.wrap .i64 ((((List.length x1) : Nat) : Int) - 1)) - 1)) es14)))))))))))) ∧ (((decide ((0 : Int) ≤ (IntKind.wrap .i64 ((((List.length x1) : Nat) : Int) - 1)))) = false) → False))
theorem num_Text_l1 {R : TV → List Ob → Prop} {x0 : Bool} {x1 : List (List FV)} (h : num_Text_R1 R x0 x1) : num_Text_L1 R x0 x1 :=
  LoopAt.by_tr (by kernel_rfl) (by kernel_rfl) h
def num_Text_H (R : TV → List Ob → Prop) (x0 : Bool) (x1 : List (List FV)) : Prop :=
  (∃ b1 : Bool, ((Fn Tryd.prog 32 [(TV.agg [(AV.fz (FV.bool x0)), (AV.fz (FV.sl 1 x1))])] [] (TV.one (AV.fz (FV.bool b1))) []) ∧ ((((Bool.not b1) = true) → (R (TV.one (AV.fz (FV.str (ByteArray.mk #[])))) [])) ∧ (((Bool.not b1) = false) → (((((((List.length x1) : Nat) : Int) == 0) = true) → (R (TV.one (AV.fz (FV.str (ByteArray.mk #[48])))) [])) ∧ ((((((List.length x1) : Nat) : Int) == 0) = false) → (((x0 = true) → (∃ es12 : List (List FV), ((Fn Tryd.prog 58 [(TV.one (AV.ptr 0 0 0 0)), (TV.one (AV.fz (FV.int .u8 45)))] [(Ob.g 74 [(AV.fz FV.nilp), (AV.nsl 1)])] (TV.one (AV.fz (FV.ifc false))) [(Ob.g 74 [(AV.ptr 0 0 0 0), (AV.ofl 1 1)]), (Ob.f 5 1 es12)]) ∧ (num_Text_L0 R x0 x1 (IntKind.wrap .i64 ((((List.length x1) : Nat) : Int) - 1)) es12)))) ∧ ((x0 = false) → (num_Text_L1 R x0 x1)))))))))
theorem num_Text_fn (x0 : Bool) (x1 : List (List FV)) {r : TV} {h : List Ob} (H : num_Text_H (fun r' h' => r' = r ∧ h' = h) x0 x1) : Fn Tryd.prog 33 [(TV.agg [(AV.fz (FV.bool x0)), (AV.fz (FV.sl 1 x1))])] [] r h :=
  Fn.by_tr (M := (modeOf [] [(58, [(Sig.mk 1 [(false, [(AT.a (AV.fz (FV.ifc false)))])] [(OT.g 74 [(AT.a (AV.ptr 0 0 0 0)), (AT.a (AV.ofl 1 1))]), (OT.f 5 1)] 0), (Sig.mk 2 [(false, [(AT.a (AV.fz (FV.ifc false)))])] [(OT.g 74 [(AT.a (AV.ptr 0 0 0 0)), (AT.a (AV.ofl 1 2))]), OT.no, (OT.f 5 1)] 0)]), (60, [(Sig.mk 1 [(false, [(AT.k (CK.int .i64))]), (false, [(AT.a (AV.fz (FV.ifc false)))])] [(OT.g 74 [(AT.a (AV.ptr 0 0 0 0)), (AT.a (AV.ofl 1 1))]), (OT.f 5 1)] 0), (Sig.mk 2 [(false, [(AT.k (CK.int .i64))]), (false, [(AT.a (AV.fz (FV.ifc false)))])] [(OT.g 74 [(AT.a (AV.ptr 0 0 0 0)), (AT.a (AV.ofl 1 2))]), OT.no, (OT.f 5 1)] 0)]), (62, [(Sig.mk 2 [(false, [(AT.k CK.str)])] [(OT.g 74 [(AT.a (AV.ptr 0 0 0 0)), (AT.a (AV.ofl 1 1))]), (OT.z 1)] 0)])])) (lv := num_Text_lv) (own := none) (F := Tryd.f33) (by kernel_rfl) (by kernel_rfl) (by first | decide | simp) (by kernel_rfl) H
end Go.Proofs.YtflmioakfboanaaDoor.Ev
end
section
set_option linter.unusedVariables false
namespace Go.Proofs.YtflmioakfboanaaDoor.Ev
open Go Go.RowKit
theorem RepH.below {P : Program} {ext : Nat → Prop} {w0 : World} {own0 : Own0} {locs : Nat → Option Loc} {w w' : World} (H : RepH P ext w0 own0 locs [] w) (hb : Below w.heap.size w w') : RepH P ext w0 own0 locs [] w' := by
  have hown : ∀ b, ¬ ownB locs [] b := by rintro b ⟨o, l, d, ob, h1, _⟩; simp at h1
  refine ⟨H.len, fun o ob ho => by simp at ho, fun o o' l l' ob ob' d d' _ ho => by simp at ho, fun b _ hb => hown b hb, fun b hb' => Nat.lt_of_lt_of_le (H.extlt b hb') hb.size, fun b _ hb => absurd hb (hown b), ?_, H.base, H.pins⟩
  exact ⟨Nat.le_trans H.since.size hb.size, fun b hlt hn => (hb.block b (Nat.lt_of_lt_of_le hlt H.since.size)).trans (H.since.block b hlt hn), hb.os.trans H.since.os, hb.tape.trans H.since.tape, hb.output.trans H.since.output⟩
def bareV : FV → Option Value
  | .int k n => some (.int k n)
  | .bool b => some (.bool b)
  | .str s => some (.string s)
  | _ => none
theorem bareV_ok {w : World} {B : Nat → Prop} {x : FV} {v u : Value} (h : bareV x = some v) (hr : RF w B x u) : u = v := by
  cases x <;> cases h <;> cases hr <;> rfl
theorem bareV_rep {w : World} {B : Nat → Prop} {x : FV} {v : Value} (h : bareV x = some v) : RF w B x v := by
  cases x <;> cases h <;> constructor
theorem args_bare {w : World} {B : Nat → Prop} {locs : Nat → Option Loc} : ∀ (xs : List FV) (vs vals : List Value), xs.mapM bareV = some vs → vals.length = xs.length →
    (∀ (i : Nat) (x : TV), (xs.map fun x => TV.one (.fz x))[i]? = some x → ∃ v, vals[i]? = some v ∧ RT w B locs x v) → vals = vs
  | [], vs, vals, h, hl, _ => by
    simp at h hl
    rw [hl, ← h]
  | x :: xs, vs, [], h, hl, _ => by simp at hl
  | x :: xs, vs, v :: vals, h, hl, hr => by
    simp only [List.mapM_cons, Option.bind_eq_bind, Option.bind_eq_some_iff, Option.pure_def, Option.some.injEq] at h
    obtain ⟨u, hu, us, hus, rfl⟩ := h
    obtain ⟨v', hv', hr'⟩ := hr 0 _ rfl
    cases hv'
    have h1 := bareV_ok hu hr'
    have h2 := args_bare xs us vals hus (by simpa using hl) (fun i y hy => hr (i + 1) y (by simpa using hy))
    rw [h1, h2]
theorem Fn.of_below {P : Program} {f : FuncId} (xs : List FV) {vs : List Value} {r : FV} {v : Value} (hx : xs.mapM bareV = some vs) (hr : bareV r = some v)
    (hc : ∀ w, Glob w → Calls P f vs.toArray w fun e w' => e = .returned v ∧ Below w.heap.size w w') : Fn P f (xs.map fun x => .one (.fz x)) [] (.one (.fz r)) [] := by
  intro ext w locs vals H hsz hrep
  have e : vals = vs.toArray := by
    have := args_bare xs vs vals.toList hx (by simpa using hsz) (fun i x h => by obtain ⟨v, h1, h2⟩ := hrep i x h; exact ⟨v, by simpa using h1, h2⟩)
    rw [← this]
  subst e
  refine (hc w H.glob).mono ?_
  rintro e w' ⟨rfl, hb⟩
  exact ⟨v, locs, rfl, H.below hb, bareV_rep hr⟩
end Go.Proofs.YtflmioakfboanaaDoor.Ev
end
section
namespace Go.Proofs
open Go.Shelf
def Tryd.laysM171_ren : Go.Shelf.Ren := ⟨fun | 171 => 59 | 243 => 76 | 246 => 98 | 283 => 111 | 284 => 112 | 285 => 113 | 286 => 114 | 129 => 122 | 317 => 121 | 318 => 123 | 319 => 124 | 320 => 125 | 337 => 130 | 338 => 131 | n => n, fun | 3 => 3 | 9 => 9 | 2 => 2 | 4 => 4 | 171 => 125 | 0 => 0 | 53 => 49 | 37 => 46 | 5 => 5 | 173 => 128 | 212 => 138 | 51 => 48 | 20 => 20 | 213 => 139 | 46 => 86 | 232 => 149 | 233 => 150 | n => n, fun | 17 => 2 | 18 => 6 | 19 => 7 | n => n⟩
theorem Tryd.laysM171 : Go.Proofs.LaysM.n171 Tryd.prog Tryd.laysM171_ren := {
  mixed := by kernel_rfl
  f129 := Tryd.func122.trans (congrArg some (by kernel_rfl))
  f171 := Tryd.func59.trans (congrArg some (by kernel_rfl))
  f243 := Tryd.func76.trans (congrArg some (by kernel_rfl))
  f246 := Tryd.func98.trans (congrArg some (by kernel_rfl))
  f283 := Tryd.func111.trans (congrArg some (by kernel_rfl))
  f284 := Tryd.func112.trans (congrArg some (by kernel_rfl))
  f285 := Tryd.func113.trans (congrArg some (by kernel_rfl))
  f286 := Tryd.func114.trans (congrArg some (by kernel_rfl))
  f317 := Tryd.func121.trans (congrArg some (by kernel_rfl))
  f318 := Tryd.func123.trans (congrArg some (by kernel_rfl))
  f319 := Tryd.func124.trans (congrArg some (by kernel_rfl))
  f320 := Tryd.func125.trans (congrArg some (by kernel_rfl))
  f337 := Tryd.func130.trans (congrArg some (by kernel_rfl))
  f338 := Tryd.func131.trans (congrArg some (by kernel_rfl))
  t0 := Tryd.underlying0
  a0 := Tryd.isAgg0
  z0 := Tryd.sizeOf0
  v0 := Tryd.zeroValue0
  t2 := Tryd.underlying2
  a2 := Tryd.isAgg2
  z2 := Tryd.sizeOf2
  v2 := Tryd.zeroValue2
  t3 := Tryd.underlying3
  a3 := Tryd.isAgg3
  z3 := Tryd.sizeOf3
  v3 := Tryd.zeroValue3
  t4 := Tryd.underlying4
  a4 := Tryd.isAgg4
  z4 := Tryd.sizeOf4
  v4 := Tryd.zeroValue4
  t5 := Tryd.underlying5
  a5 := Tryd.isAgg5
  z5 := Tryd.sizeOf5
  v5 := Tryd.zeroValue5
  t9 := Tryd.underlying9
  a9 := Tryd.isAgg9
  z9 := Tryd.sizeOf9
  v9 := Tryd.zeroValue9
  t20 := Tryd.underlying20
  a20 := Tryd.isAgg20
  z20 := Tryd.sizeOf20
  v20 := Tryd.zeroValue20
  t37 := Tryd.underlying46
  a37 := Tryd.isAgg46
  z37 := Tryd.sizeOf46
  v37 := Tryd.zeroValue46
  t46 := Tryd.underlying86
  a46 := Tryd.isAgg86
  z46 := Tryd.sizeOf86
  v46 := Tryd.zeroValue86
  t51 := Tryd.underlying48
  a51 := Tryd.isAgg48
  z51 := Tryd.sizeOf48
  v51 := Tryd.zeroValue48
  t53 := Tryd.underlying49
  a53 := Tryd.isAgg49
  z53 := Tryd.sizeOf49
  v53 := Tryd.zeroValue49
  t171 := Tryd.underlying125
  a171 := Tryd.isAgg125
  z171 := Tryd.sizeOf125
  v171 := Tryd.zeroValue125
  t173 := Tryd.underlying128
  a173 := Tryd.isAgg128
  z173 := Tryd.sizeOf128
  v173 := Tryd.zeroValue128
  t212 := Tryd.underlying138
  a212 := Tryd.isAgg138
  z212 := Tryd.sizeOf138
  v212 := Tryd.zeroValue138
  t213 := Tryd.underlying139
  a213 := Tryd.isAgg139
  z213 := Tryd.sizeOf139
  t232 := Tryd.underlying149
  a232 := Tryd.isAgg149
  z232 := Tryd.sizeOf149
  v232 := Tryd.zeroValue149
  t233 := Tryd.underlying150
  a233 := Tryd.isAgg150
  z233 := Tryd.sizeOf150
  v233 := Tryd.zeroValue150
  g17 := by kernel_rfl
  g18 := by kernel_rfl
  g19 := by kernel_rfl
  i0 := by kernel_rfl
  i2 := by kernel_rfl
  i3 := by kernel_rfl
  i4 := by kernel_rfl
  i5 := by kernel_rfl
  i9 := by kernel_rfl
  i20 := by kernel_rfl
  i37 := by kernel_rfl
  i46 := by kernel_rfl
  i51 := by kernel_rfl
  i53 := by kernel_rfl
  i171 := by kernel_rfl
  i173 := by kernel_rfl
  i212 := by kernel_rfl
  i232 := by kernel_rfl
  i233 := by kernel_rfl
  m17 := by kernel_rfl
  m18 := by kernel_rfl
  m19 := by kernel_rfl }
open Go.RowKit Go.Sort Go.Lib in
theorem Tryd.strconv_Itoa (n : Int) (h0 : -9223372036854775808 ≤ n) (h1 : n ≤ 9223372036854775807) (w : World) (htab : Lib.TabIs Tryd.prog w "internal/strconv.uint64pow10" .u64 Lib.pow10Tab) :
    Calls Tryd.prog 59 #[.int .i64 n] w fun e w' => e = .returned (.string ⟨(Lib.itoa n).toArray⟩) ∧ ∃ k os, w' = grow (w.drewN k) os := Any.strconv_Itoa Tryd.laysM171 n h0 h1 w htab
def Tryd.laysC172_ren : Go.Shelf.Ren := ⟨fun | 172 => 55 | 244 => 72 | 245 => 73 | 247 => 92 | 279 => 93 | 280 => 94 | 281 => 95 | 282 => 96 | 287 => 108 | 316 => 109 | 171 => 59 | 205 => 110 | 321 => 119 | 322 => 120 | 243 => 76 | 246 => 98 | 283 => 111 | 284 => 112 | 285 => 113 | 286 => 114 | 129 => 122 | 317 => 121 | 318 => 123 | 319 => 124 | 320 => 125 | 337 => 130 | 338 => 131 | n => n, fun | 9 => 9 | 3 => 3 | 75 => 67 | 76 => 68 | 4 => 4 | 5 => 5 | 167 => 101 | 37 => 46 | 0 => 0 | 85 => 102 | 2 => 2 | 168 => 104 | 53 => 49 | 175 => 119 | 46 => 86 | 210 => 123 | 127 => 92 | 145 => 135 | 143 => 133 | 21 => 21 | 171 => 125 | 173 => 128 | 212 => 138 | 51 => 48 | 20 => 20 | 213 => 139 | 232 => 149 | 233 => 150 | 80 => 78 | n => n, fun | 15 => 0 | 16 => 1 | 17 => 2 | 18 => 6 | 19 => 7 | n => n⟩
theorem Tryd.laysC172 : Go.Proofs.LaysC.n172 Tryd.prog Tryd.laysC172_ren := {
  mixed := by kernel_rfl
  f129 := Tryd.func122.trans (congrArg some (by kernel_rfl))
  f171 := Tryd.func59.trans (congrArg some (by kernel_rfl))
  f172 := Tryd.func55.trans (congrArg some (by kernel_rfl))
  f205 := Tryd.func110.trans (congrArg some (by kernel_rfl))
  f243 := Tryd.func76.trans (congrArg some (by kernel_rfl))
  f244 := Tryd.func72.trans (congrArg some (by kernel_rfl))
  f245 := Tryd.func73.trans (congrArg some (by kernel_rfl))
  f246 := Tryd.func98.trans (congrArg some (by kernel_rfl))
  f247 := Tryd.func92.trans (congrArg some (by kernel_rfl))
  f279 := Tryd.func93.trans (congrArg some (by kernel_rfl))
  f280 := Tryd.func94.trans (congrArg some (by kernel_rfl))
  f281 := Tryd.func95.trans (congrArg some (by kernel_rfl))
  f282 := Tryd.func96.trans (congrArg some (by kernel_rfl))
  f283 := Tryd.func111.trans (congrArg some (by kernel_rfl))
  f284 := Tryd.func112.trans (congrArg some (by kernel_rfl))
  f285 := Tryd.func113.trans (congrArg some (by kernel_rfl))
  f286 := Tryd.func114.trans (congrArg some (by kernel_rfl))
  f287 := Tryd.func108.trans (congrArg some (by kernel_rfl))
  f316 := Tryd.func109.trans (congrArg some (by kernel_rfl))
  f317 := Tryd.func121.trans (congrArg some (by kernel_rfl))
  f318 := Tryd.func123.trans (congrArg some (by kernel_rfl))
  f319 := Tryd.func124.trans (congrArg some (by kernel_rfl))
  f320 := Tryd.func125.trans (congrArg some (by kernel_rfl))
  f321 := Tryd.func119.trans (congrArg some (by kernel_rfl))
  f322 := Tryd.func120.trans (congrArg some (by kernel_rfl))
  f337 := Tryd.func130.trans (congrArg some (by kernel_rfl))
  f338 := Tryd.func131.trans (congrArg some (by kernel_rfl))
  t0 := Tryd.underlying0
  a0 := Tryd.isAgg0
  z0 := Tryd.sizeOf0
  v0 := Tryd.zeroValue0
  t2 := Tryd.underlying2
  a2 := Tryd.isAgg2
  z2 := Tryd.sizeOf2
  v2 := Tryd.zeroValue2
  t3 := Tryd.underlying3
  a3 := Tryd.isAgg3
  z3 := Tryd.sizeOf3
  v3 := Tryd.zeroValue3
  t4 := Tryd.underlying4
  a4 := Tryd.isAgg4
  z4 := Tryd.sizeOf4
  v4 := Tryd.zeroValue4
  t5 := Tryd.underlying5
  a5 := Tryd.isAgg5
  z5 := Tryd.sizeOf5
  v5 := Tryd.zeroValue5
  t9 := Tryd.underlying9
  a9 := Tryd.isAgg9
  z9 := Tryd.sizeOf9
  v9 := Tryd.zeroValue9
  t20 := Tryd.underlying20
  a20 := Tryd.isAgg20
  z20 := Tryd.sizeOf20
  v20 := Tryd.zeroValue20
  t21 := Tryd.underlying21
  a21 := Tryd.isAgg21
  z21 := Tryd.sizeOf21
  v21 := Tryd.zeroValue21
  t37 := Tryd.underlying46
  a37 := Tryd.isAgg46
  z37 := Tryd.sizeOf46
  v37 := Tryd.zeroValue46
  t46 := Tryd.underlying86
  a46 := Tryd.isAgg86
  z46 := Tryd.sizeOf86
  v46 := Tryd.zeroValue86
  t51 := Tryd.underlying48
  a51 := Tryd.isAgg48
  z51 := Tryd.sizeOf48
  v51 := Tryd.zeroValue48
  t53 := Tryd.underlying49
  a53 := Tryd.isAgg49
  z53 := Tryd.sizeOf49
  v53 := Tryd.zeroValue49
  t75 := Tryd.underlying67
  a75 := Tryd.isAgg67
  z75 := Tryd.sizeOf67
  v75 := Tryd.zeroValue67
  t76 := Tryd.underlying68
  a76 := Tryd.isAgg68
  z76 := Tryd.sizeOf68
  v76 := Tryd.zeroValue68
  t85 := Tryd.underlying102
  a85 := Tryd.isAgg102
  z85 := Tryd.sizeOf102
  v85 := Tryd.zeroValue102
  t127 := Tryd.underlying92
  a127 := Tryd.isAgg92
  z127 := Tryd.sizeOf92
  v127 := Tryd.zeroValue92
  t143 := Tryd.underlying133
  a143 := Tryd.isAgg133
  z143 := Tryd.sizeOf133
  v143 := Tryd.zeroValue133
  t145 := Tryd.underlying135
  a145 := Tryd.isAgg135
  z145 := Tryd.sizeOf135
  v145 := Tryd.zeroValue135
  t167 := Tryd.underlying101
  a167 := Tryd.isAgg101
  z167 := Tryd.sizeOf101
  v167 := Tryd.zeroValue101
  t168 := Tryd.underlying104
  a168 := Tryd.isAgg104
  z168 := Tryd.sizeOf104
  v168 := Tryd.zeroValue104
  t171 := Tryd.underlying125
  a171 := Tryd.isAgg125
  z171 := Tryd.sizeOf125
  v171 := Tryd.zeroValue125
  t173 := Tryd.underlying128
  a173 := Tryd.isAgg128
  z173 := Tryd.sizeOf128
  v173 := Tryd.zeroValue128
  t175 := Tryd.underlying119
  a175 := Tryd.isAgg119
  z175 := Tryd.sizeOf119
  v175 := Tryd.zeroValue119
  t210 := Tryd.underlying123
  a210 := Tryd.isAgg123
  z210 := Tryd.sizeOf123
  v210 := Tryd.zeroValue123
  t212 := Tryd.underlying138
  a212 := Tryd.isAgg138
  z212 := Tryd.sizeOf138
  v212 := Tryd.zeroValue138
  t213 := Tryd.underlying139
  a213 := Tryd.isAgg139
  z213 := Tryd.sizeOf139
  t232 := Tryd.underlying149
  a232 := Tryd.isAgg149
  z232 := Tryd.sizeOf149
  v232 := Tryd.zeroValue149
  t233 := Tryd.underlying150
  a233 := Tryd.isAgg150
  z233 := Tryd.sizeOf150
  v233 := Tryd.zeroValue150
  g15 := by kernel_rfl
  g16 := by kernel_rfl
  g17 := by kernel_rfl
  g18 := by kernel_rfl
  g19 := by kernel_rfl
  t80 := Tryd.underlying78
  a80 := Tryd.isAgg78
  z80 := Tryd.sizeOf78
  v80 := Tryd.zeroValue78
  i0 := by kernel_rfl
  i2 := by kernel_rfl
  i3 := by kernel_rfl
  i4 := by kernel_rfl
  i5 := by kernel_rfl
  i9 := by kernel_rfl
  i20 := by kernel_rfl
  i21 := by kernel_rfl
  i37 := by kernel_rfl
  i46 := by kernel_rfl
  i51 := by kernel_rfl
  i53 := by kernel_rfl
  i75 := by kernel_rfl
  i76 := by kernel_rfl
  i80 := by kernel_rfl
  i85 := by kernel_rfl
  i127 := by kernel_rfl
  i143 := by kernel_rfl
  i145 := by kernel_rfl
  i167 := by kernel_rfl
  i168 := by kernel_rfl
  i171 := by kernel_rfl
  i173 := by kernel_rfl
  i175 := by kernel_rfl
  i210 := by kernel_rfl
  i212 := by kernel_rfl
  i232 := by kernel_rfl
  i233 := by kernel_rfl
  m15 := by kernel_rfl
  m16 := by kernel_rfl
  m17 := by kernel_rfl
  m18 := by kernel_rfl
  m19 := by kernel_rfl
  c0 := by kernel_rfl
  c2 := by kernel_rfl
  c3 := by kernel_rfl
  c4 := by kernel_rfl
  c5 := by kernel_rfl
  c9 := by kernel_rfl
  c20 := by kernel_rfl
  c21 := by kernel_rfl
  c37 := by kernel_rfl
  c46 := by kernel_rfl
  c51 := by kernel_rfl
  c53 := by kernel_rfl
  c75 := by kernel_rfl
  c76 := by kernel_rfl
  c80 := by kernel_rfl
  c85 := by kernel_rfl
  c127 := by kernel_rfl
  c143 := by kernel_rfl
  c145 := by kernel_rfl
  c167 := by kernel_rfl
  c168 := by kernel_rfl
  c171 := by kernel_rfl
  c173 := by kernel_rfl
  c175 := by kernel_rfl
  c210 := by kernel_rfl
  c212 := by kernel_rfl
  c213 := by kernel_rfl
  c232 := by kernel_rfl
  c233 := by kernel_rfl }
open Go.RowKit in
theorem Tryd.strconv_Atoi_ok (s : ByteArray) (hmax : s.size ≤ 9223372036854775806) (v : Int) (h : Lib.atoiAll s.data.toList = .ok v) (w : World) :
    Calls Tryd.prog 55 #[.string s] w fun e w' => e = .returned (.tuple #[.int .i64 v, .nilIface]) ∧ (w' = w ∨ ∃ t, w' = Lib.bytesWorld w 5 t) := Any.strconv_Atoi_ok Tryd.laysC172 s hmax v h w
open Go.RowKit in
theorem Tryd.strconv_Atoi_syntax (s : ByteArray) (hlim : s.size ≤ 281474976710656) (h : Lib.atoiAll s.data.toList = Lib.atoiAll []) (ev : Value) (w : World) (hv : w.cell? ⟨0, 0, none⟩ = some ev) (hev : ev = .nilIface ∨ ∃ te pe, ev = .iface te pe) :
    Calls Tryd.prog 55 #[.string s] w fun e w' => ∃ N, e = .returned (.tuple #[.int .i64 (0), .iface 104 (.pointer (some ⟨N, 0, none⟩))]) ∧ w.heap.size ≤ N ∧ w'.heap[N]? = some (.cells #[.string ⟨#[65, 116, 111, 105]⟩, .string s, ev] 123 (0, 0)) ∧ Below w.heap.size w w' := Any.strconv_Atoi_syntax Tryd.laysC172 s hlim h ev w hv hev
open Go.RowKit in
theorem Tryd.strconv_Atoi_range (s : ByteArray) (hlim : s.size ≤ 281474976710656) (h : Lib.atoiAll s.data.toList = .range) (ev : Value) (w : World) (hv : w.cell? ⟨1, 0, none⟩ = some ev) (hev : ev = .nilIface ∨ ∃ te pe, ev = .iface te pe) :
    Calls Tryd.prog 55 #[.string s] w fun e w' => ∃ N, e = .returned (.tuple #[.int .i64 (Lib.atoiSat s.data.toList), .iface 104 (.pointer (some ⟨N, 0, none⟩))]) ∧ w.heap.size ≤ N ∧ w'.heap[N]? = some (.cells #[.string ⟨#[65, 116, 111, 105]⟩, .string s, ev] 123 (0, 0)) ∧ Below w.heap.size w w' := Any.strconv_Atoi_range Tryd.laysC172 s hlim h ev w hv hev
def Tryd.lays105_ren : Go.Shelf.Ren := ⟨fun | 105 => 61 | 212 => 77 | 99 => 78 | 165 => 79 | 166 => 60 | 170 => 80 | 169 => 62 | 263 => 99 | 264 => 100 | 206 => 101 | 240 => 75 | 241 => 102 | 276 => 97 | 277 => 115 | n => n, fun | 9 => 9 | 3 => 3 | 4 => 4 | 20 => 20 | 0 => 0 | 46 => 86 | 109 => 87 | 5 => 5 | 72 => 74 | 76 => 68 | 51 => 48 | 146 => 110 | 53 => 49 | 148 => 112 | 70 => 72 | 37 => 46 | 75 => 67 | 127 => 92 | 164 => 107 | 80 => 78 | n => n, fun | n => n⟩
theorem Tryd.lays105 : Go.Proofs.Lays.n105 Tryd.prog Tryd.lays105_ren := {
  mixed := by kernel_rfl
  f99 := Tryd.func78.trans (congrArg some (by kernel_rfl))
  f105 := Tryd.func61.trans (congrArg some (by kernel_rfl))
  f165 := Tryd.func79.trans (congrArg some (by kernel_rfl))
  f166 := Tryd.func60.trans (congrArg some (by kernel_rfl))
  f169 := Tryd.func62.trans (congrArg some (by kernel_rfl))
  f170 := Tryd.func80.trans (congrArg some (by kernel_rfl))
  f206 := Tryd.func101.trans (congrArg some (by kernel_rfl))
  f212 := Tryd.func77.trans (congrArg some (by kernel_rfl))
  f240 := Tryd.func75.trans (congrArg some (by kernel_rfl))
  f241 := Tryd.func102.trans (congrArg some (by kernel_rfl))
  f263 := Tryd.func99.trans (congrArg some (by kernel_rfl))
  f264 := Tryd.func100.trans (congrArg some (by kernel_rfl))
  f276 := Tryd.func97.trans (congrArg some (by kernel_rfl))
  f277 := Tryd.func115.trans (congrArg some (by kernel_rfl))
  t0 := Tryd.underlying0
  a0 := Tryd.isAgg0
  z0 := Tryd.sizeOf0
  v0 := Tryd.zeroValue0
  t3 := Tryd.underlying3
  a3 := Tryd.isAgg3
  z3 := Tryd.sizeOf3
  v3 := Tryd.zeroValue3
  t4 := Tryd.underlying4
  a4 := Tryd.isAgg4
  z4 := Tryd.sizeOf4
  v4 := Tryd.zeroValue4
  t5 := Tryd.underlying5
  a5 := Tryd.isAgg5
  z5 := Tryd.sizeOf5
  v5 := Tryd.zeroValue5
  t9 := Tryd.underlying9
  a9 := Tryd.isAgg9
  z9 := Tryd.sizeOf9
  v9 := Tryd.zeroValue9
  t20 := Tryd.underlying20
  a20 := Tryd.isAgg20
  z20 := Tryd.sizeOf20
  v20 := Tryd.zeroValue20
  t37 := Tryd.underlying46
  a37 := Tryd.isAgg46
  z37 := Tryd.sizeOf46
  v37 := Tryd.zeroValue46
  t46 := Tryd.underlying86
  a46 := Tryd.isAgg86
  z46 := Tryd.sizeOf86
  v46 := Tryd.zeroValue86
  t51 := Tryd.underlying48
  a51 := Tryd.isAgg48
  z51 := Tryd.sizeOf48
  v51 := Tryd.zeroValue48
  t53 := Tryd.underlying49
  a53 := Tryd.isAgg49
  z53 := Tryd.sizeOf49
  v53 := Tryd.zeroValue49
  t70 := Tryd.underlying72
  a70 := Tryd.isAgg72
  z70 := Tryd.sizeOf72
  v70 := Tryd.zeroValue72
  t72 := Tryd.underlying74
  a72 := Tryd.isAgg74
  z72 := Tryd.sizeOf74
  v72 := Tryd.zeroValue74
  t75 := Tryd.underlying67
  a75 := Tryd.isAgg67
  z75 := Tryd.sizeOf67
  v75 := Tryd.zeroValue67
  t76 := Tryd.underlying68
  a76 := Tryd.isAgg68
  z76 := Tryd.sizeOf68
  v76 := Tryd.zeroValue68
  t109 := Tryd.underlying87
  a109 := Tryd.isAgg87
  z109 := Tryd.sizeOf87
  v109 := Tryd.zeroValue87
  t127 := Tryd.underlying92
  a127 := Tryd.isAgg92
  z127 := Tryd.sizeOf92
  v127 := Tryd.zeroValue92
  t146 := Tryd.underlying110
  a146 := Tryd.isAgg110
  z146 := Tryd.sizeOf110
  v146 := Tryd.zeroValue110
  t148 := Tryd.underlying112
  a148 := Tryd.isAgg112
  z148 := Tryd.sizeOf112
  v148 := Tryd.zeroValue112
  t164 := Tryd.underlying107
  a164 := Tryd.isAgg107
  z164 := Tryd.sizeOf107
  v164 := Tryd.zeroValue107 }
theorem Tryd.Builder_Extra_105 : Builder.Extra Tryd.prog Tryd.lays105_ren := {
  sizeBuilder := by kernel_rfl
  liesBuilder := by kernel_rfl
  t5 := Tryd.underlying5
  a5 := Tryd.isAgg5
  z5 := Tryd.sizeOf5
  v5 := Tryd.zeroValue5
  infoByte := by kernel_rfl
  cellsByte := by kernel_rfl
  sizeByte := by kernel_rfl
  neB5 := by decide }
open Go.RowKit Go.Lib in
theorem Tryd.strings_Repeat (s : ByteArray) (c : Nat) (w : World) (hc : c ≤ 9223372036854775807) (hlen : s.size * c ≤ 140737488355328) :
    Calls Tryd.prog 61 #[.string s, .int .i64 c] w fun e w' => e = .returned (.string ⟨(Lib.repeatL s.data.toList c).toArray⟩) ∧ Below w.heap.size w w' := Any.strings_Repeat Tryd.lays105 Tryd.Builder_Extra_105 s c w hc hlen
end Go.Proofs
end
section
set_option linter.unusedVariables false
namespace Go.Proofs.YtflmioakfboanaaDoor.Ev
open Go Go.RowKit
theorem tabAt_ints {w : World} {g : Nat} {k : IntKind} {zs : List Int} (h : TabAt w (fun _ => True) g (zs.map fun z => FV.int k z)) : ∃ t z, w.heap[g]? = some (.cells (zs.map fun z => Value.int k z).toArray t z) := by
  obtain ⟨c, t, z, h1, h2, h3⟩ := h
  refine ⟨t, z, ?_⟩
  rw [h1]
  congr 2
  apply Array.ext
  · simpa using h2
  · intro i hi hi'
    have hi2 : i < zs.length := by simpa using hi'
    obtain ⟨v, hv, hr⟩ := h3 i (.int k zs[i]) (by simp [hi2])
    cases hr
    rw [Array.getElem?_eq_getElem hi] at hv
    simpa using hv
theorem tab_pow10 {w : World} (h : Glob w) : Lib.TabIs Tryd.prog w "internal/strconv.uint64pow10" .u64 Lib.pow10Tab := by
  have hg : Tryd.prog.globalNamed "internal/strconv.uint64pow10" = some 2 := by kernel_rfl
  have hm : (2, (List.range 20).map fun i => FV.int .u64 ((10 ^ i : Nat) : Int)) ∈ tabs := by simp [tabs]
  have h1 := h _ hm
  rw [show ((List.range 20).map fun i => FV.int .u64 ((10 ^ i : Nat) : Int)) = (Lib.pow10Tab.map fun z => FV.int .u64 z) by simp [Lib.pow10Tab]] at h1
  obtain ⟨t, z, h2⟩ := tabAt_ints h1
  unfold Lib.TabIs World.var?
  rw [hg]
  simp only [Option.bind_some, h2]
def itoaS (n : Int) : ByteArray := ⟨(Lib.itoa n).toArray⟩
theorem Itoa_fn (n : Int) (h0 : -9223372036854775808 ≤ n) (h1 : n ≤ 9223372036854775807) : Fn Tryd.prog 59 [.one (.fz (.int .i64 n))] [] (.one (.fz (.str (itoaS n)))) [] :=
  Fn.of_below [.int .i64 n] rfl rfl fun w hg => by
    refine (Tryd.strconv_Itoa n h0 h1 w (tab_pow10 hg)).mono ?_
    rintro e w' ⟨rfl, k, os, rfl⟩
    exact ⟨rfl, Lib.below_grow _ _ (Nat.le_refl _) _ _⟩
def repeatS (s : ByteArray) (c : Int) : ByteArray := ⟨(Lib.repeatL s.data.toList c.toNat).toArray⟩
theorem Repeat_fn (s : ByteArray) (c : Int) (h0 : 0 ≤ c) (hc : c ≤ 9223372036854775807) (hlen : s.size * c.toNat ≤ 140737488355328) : Fn Tryd.prog 61 [.one (.fz (.str s)), .one (.fz (.int .i64 c))] [] (.one (.fz (.str (repeatS s c)))) [] :=
  Fn.of_below [.str s, .int .i64 c] rfl rfl fun w hg => by
    obtain ⟨m, rfl⟩ := Int.eq_ofNat_of_zero_le h0
    refine (Tryd.strings_Repeat s m w (by omega) (by simpa using hlen)).mono ?_
    rintro e w' ⟨rfl, hb⟩
    exact ⟨rfl, hb⟩
end Go.Proofs.YtflmioakfboanaaDoor.Ev
end
section
set_option linter.unusedVariables false
set_option linter.unusedSimpArgs false
namespace Go.Proofs.YtflmioakfboanaaDoor.Ev
open Go
def tdig (n : Nat) : List Int := (digs 10 n).reverse.map (48 + ·)
def numT (s : Bool) (l : List Int) : List Int := if sndB s l = true then (if l.length = 0 then [48] else (if s = true then [45] else []) ++ tdig (val 1000000000 l).toNat) else []
theorem tdig_bytes (n : Nat) : Bytes (tdig n) := by
  intro x hx
  simp only [tdig, List.mem_map, List.mem_reverse] at hx
  obtain ⟨y, hy, rfl⟩ := hx
  have := digsT_lim n y hy
  omega
theorem tdig_len (n : Nat) : (tdig n).length = (digs 10 n).length := by simp [tdig]
theorem rtext_loop0 (d : List Int) (hL : Lim 10 d) (hd : d.length ≤ 1000) (R : TV → List Ob → Prop) : ∀ (k : Nat) (o : List Int), k ≤ d.length → o.length ≤ 100000 - k → R (.one (.fz (.str (bytesOf (o ++ (d.take k).reverse.map (48 + ·)))))) [] → ref01_Text_L0 R (ints .u8 d) ((k : Int) - 1) (ints .u8 o)
  | 0, o, _, ho, hR => by
    refine ref01_Text_l0 ?_
    unfold ref01_Text_R0
    simp only [ints_len, ints_app, ints_snoc, ints_take, ints_drop, ints_set, ints_rep, ints_one, ex_rd, dec_t, dec_f, beq_t, beq_f, bne_t, bne_f, not_t, not_f, List.length_set, List.length_append, List.length_cons, List.length_nil, List.length_take, List.length_drop, List.length_replicate, Int.toNat_natCast, List.nil_append, Bool.not_true, Bool.not_false, Wk_nil, Wk_cons, wk1_same, wk1_f, and_true, true_and, Bool.false_eq_true, Bool.true_eq_false, false_implies, forall_const]
    exact ⟨fun h => by omega, fun _ => ⟨o, rfl, by simpa using hR⟩⟩
  | k + 1, o, hk, ho, hR => by
    have hg := hL.rd (by omega) k
    refine ref01_Text_l0 ?_
    have e1 : (((k + 1 : Nat) : Int) - 1) = (k : Int) := by omega
    have e2 : IntKind.wrap .i64 ((k : Int) - 1) = (k : Int) - 1 := w64 (by omega) (by omega)
    have e3 : IntKind.wrap .u8 (48 + rd d k) = 48 + rd d k := wu8 (by omega) (by omega)
    unfold ref01_Text_R0
    rw [e1]
    simp only [ints_len, ints_app, ints_snoc, ints_take, ints_drop, ints_set, ints_rep, ints_one, ex_rd, dec_t, dec_f, beq_t, beq_f, bne_t, bne_f, not_t, not_f, List.length_set, List.length_append, List.length_cons, List.length_nil, List.length_take, List.length_drop, List.length_replicate, Int.toNat_natCast, List.nil_append, Bool.not_true, Bool.not_false, Wk_nil, Wk_cons, wk1_same, wk1_f, and_true, true_and, Bool.false_eq_true, Bool.true_eq_false, false_implies, forall_const, e2, e3]
    refine ⟨fun _ => ⟨by omega, by omega, by omega, rtext_loop0 d hL hd R k (o ++ [48 + rd d k]) (by omega) (by simp; omega) ?_⟩, fun h => by omega⟩
    rw [List.take_succ_eq_append_getElem (by omega), ← rd_at d k (by omega)] at hR
    simpa using hR
theorem rtext_loop1 (d : List Int) (hL : Lim 10 d) (hd : d.length ≤ 1000) (R : TV → List Ob → Prop) : ∀ (k : Nat) (o : List Int), k ≤ d.length → o.length ≤ 100000 - k → R (.one (.fz (.str (bytesOf (o ++ (d.take k).reverse.map (48 + ·)))))) [] → ref01_Text_L1 R (ints .u8 d) ((k : Int) - 1) (ints .u8 o)
  | 0, o, _, ho, hR => by
    refine ref01_Text_l1 ?_
    unfold ref01_Text_R1
    simp only [ints_len, ints_app, ints_snoc, ints_take, ints_drop, ints_set, ints_rep, ints_one, ex_rd, dec_t, dec_f, beq_t, beq_f, bne_t, bne_f, not_t, not_f, List.length_set, List.length_append, List.length_cons, List.length_nil, List.length_take, List.length_drop, List.length_replicate, Int.toNat_natCast, List.nil_append, Bool.not_true, Bool.not_false, Wk_nil, Wk_cons, wk1_same, wk1_f, and_true, true_and, Bool.false_eq_true, Bool.true_eq_false, false_implies, forall_const]
    exact ⟨fun h => by omega, fun _ => ⟨o, rfl, by simpa using hR⟩⟩
  | k + 1, o, hk, ho, hR => by
    have hg := hL.rd (by omega) k
    refine ref01_Text_l1 ?_
    have e1 : (((k + 1 : Nat) : Int) - 1) = (k : Int) := by omega
    have e2 : IntKind.wrap .i64 ((k : Int) - 1) = (k : Int) - 1 := w64 (by omega) (by omega)
    have e3 : IntKind.wrap .u8 (48 + rd d k) = 48 + rd d k := wu8 (by omega) (by omega)
    unfold ref01_Text_R1
    rw [e1]
    simp only [ints_len, ints_app, ints_snoc, ints_take, ints_drop, ints_set, ints_rep, ints_one, ex_rd, dec_t, dec_f, beq_t, beq_f, bne_t, bne_f, not_t, not_f, List.length_set, List.length_append, List.length_cons, List.length_nil, List.length_take, List.length_drop, List.length_replicate, Int.toNat_natCast, List.nil_append, Bool.not_true, Bool.not_false, Wk_nil, Wk_cons, wk1_same, wk1_f, and_true, true_and, Bool.false_eq_true, Bool.true_eq_false, false_implies, forall_const, e2, e3]
    refine ⟨fun _ => ⟨by omega, by omega, by omega, rtext_loop1 d hL hd R k (o ++ [48 + rd d k]) (by omega) (by simp; omega) ?_⟩, fun h => by omega⟩
    rw [List.take_succ_eq_append_getElem (by omega), ← rd_at d k (by omega)] at hR
    simpa using hR
theorem rtext_ok (s : Bool) (l : List Int) (hu : U32 l) (hl : l.length ≤ 100000) : Fn Tryd.prog 34 [fzN s l] [] (.one (.fz (.str (bytesOf (numT s l))))) [] := by
  refine ref01_Text_fn _ _ ?_
  unfold ref01_Text_H
  refine ⟨_, rsound_ok s l (by omega), ?_⟩
  rw [not_t, not_f]
  unfold numT
  refine ⟨fun h => ?_, fun h => ?_⟩
  · rw [h]; exact ⟨rfl, rfl⟩
  · rw [if_pos h]
    have sn := (sndB_iff hu).1 h
    have n1 := sn.len
    have l1 := dig_len sn
    have v1 := val_nonneg (B := 1000000000) (by omega) sn.lim
    have hz := val_zero_iff (B := 1000000000) (by omega) sn.lim sn.norm
    have hdz := digs_nil (B := 10) (by omega) (val 1000000000 l).toNat
    refine ⟨_, digits_ok s l (by omega) sn.lim, ?_⟩
    rw [beq_t, beq_f, ints_len]
    refine ⟨fun h0 => ?_, fun h0 => ?_⟩
    · have hnil : l = [] := hz.1 (by have := hdz.1 (List.length_eq_zero_iff.1 (by omega)); omega)
      rw [if_pos (by rw [hnil]; rfl)]
      exact ⟨rfl, rfl⟩
    · have hne : ¬ l.length = 0 := fun e => h0 (by rw [List.length_eq_zero_iff.1 e]; simp [val, digs_zero])
      rw [if_neg hne]
      have e1 : IntKind.wrap .i64 (((digs 10 (val 1000000000 l).toNat).length : Int) - 1) = ((digs 10 (val 1000000000 l).toNat).length : Int) - 1 := w64 (by omega) (by omega)
      rw [e1]
      refine ⟨fun hs => ⟨by simp, ?_⟩, fun hs => ?_⟩
      · rw [List.nil_append, ints_one]
        refine rtext_loop0 _ (digsT_lim _) (by omega) _ _ [45] (Nat.le_refl _) (by simp; omega) ⟨?_, rfl⟩
        rw [List.take_length, if_pos hs]; rfl
      · refine rtext_loop1 _ (digsT_lim _) (by omega) _ _ [] (Nat.le_refl _) (by simp only [List.length_nil]; omega) ⟨?_, rfl⟩
        rw [List.take_length, if_neg (by simp [hs])]; rfl
theorem decDigits_tdig (u : Nat) (hu : 0 < u) : Lib.decDigits u = (tdig u).map fun n => UInt8.ofNat n.toNat := by
  induction u using Nat.strongRecOn with
  | _ u ih =>
    unfold tdig
    rw [Lib.decDigits, digs_pos (by omega) hu]
    split
    · rename_i h
      rw [Nat.div_eq_of_lt h, digs_zero, Nat.mod_eq_of_lt h]
      simp only [List.reverse_cons, List.reverse_nil, List.nil_append, List.map_cons, List.map_nil]
      congr 2
    · rename_i h
      rw [ih (u / 10) (by omega) (by omega)]
      simp only [List.reverse_cons, List.map_append, List.map_cons, List.map_nil]
      unfold tdig
      congr 3
theorem itoa_of (n : Nat) (hn : 0 < n) : itoaS n = bytesOf (tdig n) := by
  unfold itoaS bytesOf Lib.itoa
  rw [if_neg (by omega), Int.toNat_natCast, decDigits_tdig n hn]
theorem itoa_zero : itoaS 0 = bytesOf [48] := by decide +kernel
def nine (n : Nat) : List Int := digs 10 n ++ List.replicate (9 - (digs 10 n).length) 0
theorem nine_len {n : Nat} (h : n < 1000000000) : (nine n).length = 9 := by
  have : (digs 10 n).length ≤ 9 := (digs_len (by omega) _ _).2 (by omega)
  simp [nine]; omega
theorem nine_join {x v : Nat} (hx : x < 1000000000) (hv : 0 < v) : digs 10 (x + 1000000000 * v) = nine x ++ digs 10 v := by
  have hl := nine_len hx
  have hL : Lim 10 (nine x ++ digs 10 v) := ((digsT_lim x).append (Lim.replicate (by omega) _)).append (digsT_lim v)
  have hN : Norm (nine x ++ digs 10 v) := by
    intro h
    have hd : digs 10 v ≠ [] := fun e => by have := (digs_nil (B := 10) (by omega) v).1 e; omega
    rw [List.getLast_append_of_ne_nil _ hd]
    exact digsT_norm v hd
  have hV : val 10 (nine x ++ digs 10 v) = ((x + 1000000000 * v : Nat) : Int) := by
    rw [val_append, hl, digsT_val]
    have : val 10 (nine x) = x := by unfold nine; rw [val_append, val_replicate, digsT_val]; omega
    rw [this]
    have : (10 : Int) ^ 9 = 1000000000 := by decide
    rw [this]
    rw [Int.natCast_add, Int.natCast_mul]
    rfl
  exact (digs_eq' (B := 10) (by omega) hL hN hV).symm
theorem tdig_join {x v : Nat} (hx : x < 1000000000) (hv : 0 < v) : tdig (x + 1000000000 * v) = tdig v ++ (List.replicate (9 - (digs 10 x).length) 48 ++ tdig x) := by
  unfold tdig
  rw [nine_join hx hv]
  unfold nine
  simp only [List.reverse_append, List.reverse_replicate, List.map_append, List.map_replicate, Int.add_zero]
theorem repeat_zero (n : Nat) : repeatS (bytesOf [48]) n = bytesOf (List.replicate n 48) := by
  have : ∀ n : Nat, Lib.repeatL [48] n = (List.replicate n (48 : Int)).map fun n => UInt8.ofNat n.toNat := by
    intro n
    induction n with
    | zero => rfl
    | succ n ih => rw [List.replicate_succ, List.map_cons, Lib.repeatL, ih]; rfl
  unfold repeatS bytesOf
  rw [Int.toNat_natCast]
  exact congrArg ByteArray.mk (congrArg List.toArray (this n))
theorem text_loop (s : Bool) (l : List Int) (hl : l.length ≤ 64) (hL : Lim 1000000000 l) (hn : Norm l) (g : List Int) (hg : g.length ≤ 1) (hgb : Bytes g) (R : TV → List Ob → Prop) (hR : R (.one (.fz (.str (bytesOf (g ++ tdig (val 1000000000 l).toNat))))) []) :
    ∀ (k : Nat), k ≤ l.length → g ++ tdig (val 1000000000 (l.drop k)).toNat ≠ [] → num_Text_L0 R s (ints .u32 l) ((k : Int) - 1) (ints .u8 (g ++ tdig (val 1000000000 (l.drop k)).toNat)) := by
  have hlen : ∀ k, k ≤ l.length → (g ++ tdig (val 1000000000 (l.drop k)).toNat).length ≤ 100000 := by
    intro k hk
    have h1 : (digs 10 (val 1000000000 (l.drop k)).toNat).length ≤ 576 := by
      rw [digs_len (by omega)]
      have h0 := val_nonneg (B := 1000000000) (by omega) (hL.drop k)
      have h1 := val_lt (B := 1000000000) (by omega) (hL.drop k)
      have h2 : (1000000000 : Int) ^ (l.drop k).length ≤ 1000000000 ^ 64 := pow_mono (by omega) (by simp; omega)
      have h3 : (10 : Int) ^ 576 = 1000000000 ^ 64 := pow9 64
      have h4 : (((10 : Nat) ^ 576 : Nat) : Int) = 10 ^ 576 := cast_ten_pow 576
      omega
    simp [tdig_len]; omega
  intro k
  induction k with
  | zero =>
    intro _ hne
    rw [List.drop_zero] at hne ⊢
    have h0 := hlen 0 (by omega)
    rw [List.drop_zero] at h0
    refine num_Text_l0 ?_
    unfold num_Text_R0
    refine ⟨fun h => by simp at h, fun _ => ⟨_, _, stringU_ok _ hne (hgb.append (tdig_bytes _)) (by omega), hR⟩⟩
  | succ k ih =>
    intro hk hne
    have hx := hL.rd (by omega) k
    have va := val_drop 1000000000 l k (by omega)
    have hv0 := val_nonneg (B := 1000000000) (by omega) (hL.drop (k + 1))
    obtain ⟨x, hX⟩ : ∃ x : Nat, rd l k = x := ⟨(rd l k).toNat, by omega⟩
    obtain ⟨v, hV⟩ : ∃ v : Nat, val 1000000000 (l.drop (k + 1)) = v := ⟨(val 1000000000 (l.drop (k + 1))).toNat, by omega⟩
    rw [hX] at hx va
    rw [hV] at va hne ⊢
    have hl2 := hlen (k + 1) hk
    rw [hV] at hl2
    have hval : (val 1000000000 (l.drop k)).toNat = x + 1000000000 * v := by rw [va]; omega
    rw [hval] at ih
    rw [Int.toNat_natCast] at hne hl2 ⊢
    have hnx : (x + 1000000000 * v ≠ 0) := by
      intro e
      have hd : Norm (l.drop k) := by
        intro h0
        rw [List.getLast_drop]
        exact hn _
      have := (val_zero_iff (B := 1000000000) (by omega) (hL.drop k) hd).1 (by rw [va]; omega)
      have hlen0 : (l.drop k).length = 0 := by rw [this]; rfl
      simp at hlen0
      omega
    have hne2 : g ++ tdig (x + 1000000000 * v) ≠ [] := by
      intro e
      have e2 : tdig (x + 1000000000 * v) = [] := (List.append_eq_nil_iff.1 e).2
      have : (digs 10 (x + 1000000000 * v)).length = 0 := by rw [← tdig_len, e2]; rfl
      exact hnx ((digs_nil (B := 10) (by omega) _).1 (List.length_eq_zero_iff.1 this))
    have ih2 := ih (by omega) hne2
    refine num_Text_l0 ?_
    have e1 : (((k + 1 : Nat) : Int) - 1) = (k : Int) := by omega
    have e2 : IntKind.wrap .i64 ((k : Int) - 1) = (k : Int) - 1 := w64 (by omega) (by omega)
    have e3 : IntKind.wrap .i64 ((l.length : Int) - 1) = (l.length : Int) - 1 := w64 (by omega) (by omega)
    have e4 : IntKind.wrap .i64 ((x : Nat) : Int) = (x : Int) := w64 (by omega) (by omega)
    unfold num_Text_R0
    rw [e1, ints_len, e2, e3]
    refine ⟨fun _ => ⟨by omega, ?_⟩, fun h => by simp at h⟩
    rw [Int.toNat_natCast, ex_rd, hX, e4]
    refine ⟨by omega, _, Itoa_fn x (by omega) (by omega), ?_⟩
    rw [dec_t, dec_f]
    have hd9 : (digs 10 x).length ≤ 9 := (digs_len (by omega) _ _).2 (by omega)
    refine ⟨fun hlt => ?_, fun hge => ?_⟩
    ·
      have hv : 0 < v := by
        rcases Nat.eq_zero_or_pos v with h | h
        · subst h
          have hd : Norm (l.drop (k + 1)) := by
            intro h0
            rw [List.getLast_drop]
            exact hn _
          have := (val_zero_iff (B := 1000000000) (by omega) (hL.drop (k + 1)) hd).1 (by rw [hV]; rfl)
          have hlen0 : (l.drop (k + 1)).length = 0 := by rw [this]; rfl
          simp at hlen0
          omega
        · exact h
      have hxt : ∃ (m : Nat) (t : List Int), itoaS x = bytesOf t ∧ Bytes t ∧ t.length ≤ 9 ∧ m = 9 - t.length ∧ tdig (x + 1000000000 * v) = tdig v ++ List.replicate m 48 ++ t := by
        rcases Nat.eq_zero_or_pos x with h | h
        · subst h
          refine ⟨8, [48], itoa_zero, by intro y hy; simp at hy; omega, by simp, rfl, ?_⟩
          rw [tdig_join (by omega) hv, digs_zero]
          unfold tdig
          rw [digs_zero]
          simp [List.replicate_succ]
        · refine ⟨9 - (digs 10 x).length, tdig x, itoa_of x h, tdig_bytes x, by rw [tdig_len]; exact hd9, by rw [tdig_len], ?_⟩
          rw [tdig_join (by omega) hv, List.append_assoc]
      obtain ⟨m, t, t1, t2, t3, t4, t5⟩ := hxt
      have t6 : (itoaS x).size = t.length := by rw [t1, size_of]
      have e5 : IntKind.wrap .i64 (9 - (((itoaS x).size : Nat) : Int)) = (m : Int) := by rw [t6, w64 (by omega) (by omega)]; omega
      have e6 : (ByteArray.mk #[48]) = bytesOf [48] := rfl
      have hrep : Bytes (List.replicate m (48 : Int)) := by intro y hy; have := List.eq_of_mem_replicate hy; omega
      have w1 := writeStringU_ok (repeatS (bytesOf [48]) m) (g ++ tdig v) (by rw [repeat_zero, bs_of hrep]; simp; omega) (by omega)
      rw [repeat_zero, bs_of hrep] at w1
      have w2 := writeStringU_ok (itoaS x) (g ++ tdig v ++ List.replicate m 48) (by rw [t1, bs_of t2]; omega) (by simp only [List.length_append, List.length_replicate] at hl2 ⊢; omega)
      rw [t1, bs_of t2] at w2
      rw [e5, e6, t1]
      refine ⟨_, Repeat_fn (bytesOf [48]) m (by omega) (by omega) (by rw [size_of]; simp; omega), _, _, by rw [repeat_zero]; exact w1, _, _, w2, ?_⟩
      have e7 : g ++ tdig v ++ List.replicate m 48 ++ t = g ++ tdig (x + 1000000000 * v) := by rw [t5]; simp [List.append_assoc]
      rw [e7]
      exact ih2
    ·
      have hk2 : k + 1 = l.length := by omega
      have hv : v = 0 := by
        have : l.drop (k + 1) = [] := List.drop_of_length_le (by omega)
        rw [this] at hV
        simp [val] at hV
        omega
      subst hv
      have hx0 : 0 < x := by omega
      rw [Nat.mul_zero, Nat.add_zero] at ih2
      have t0 : tdig 0 = [] := by unfold tdig; rw [digs_zero]; rfl
      rw [t0, List.append_nil] at hne hl2 ⊢
      have w2 := writeStringU_ok (itoaS x) g (by rw [itoa_of x hx0, bs_of (tdig_bytes x), tdig_len]; omega) (by omega)
      rw [itoa_of x hx0, bs_of (tdig_bytes x)] at w2
      rw [itoa_of x hx0]
      exact ⟨_, _, w2, ih2⟩
theorem text_ok (s : Bool) (l : List Int) (hu : U32 l) (hl : l.length ≤ 100000) : Fn Tryd.prog 33 [fzN s l] [] (.one (.fz (.str (bytesOf (numT s l))))) [] := by
  refine num_Text_fn _ _ ?_
  unfold num_Text_H
  refine ⟨_, sound_ok s l (by omega), ?_⟩
  rw [not_t, not_f]
  unfold numT
  refine ⟨fun h => ?_, fun h => ?_⟩
  · rw [h]; exact ⟨rfl, rfl⟩
  · rw [if_pos h]
    have sn := (sndB_iff hu).1 h
    have n1 := sn.len
    rw [beq_t, beq_f, ints_len]
    refine ⟨fun h0 => ?_, fun h0 => ?_⟩
    · rw [if_pos (by omega)]; exact ⟨rfl, rfl⟩
    · have hpos : 0 < l.length := by omega
      rw [if_neg (by omega)]
      have e1 : IntKind.wrap .i64 ((l.length : Int) - 1) = ((l.length : Nat) : Int) - 1 := w64 (by omega) (by omega)
      refine ⟨fun hs => ⟨_, writeByteF_ok 45, ?_⟩, fun hs => ?_⟩
      · rw [e1]
        have g := text_loop s l n1 sn.lim sn.norm [45] (by simp) (by intro x hx; simp at hx; omega) (fun r' h' => r' = .one (.fz (.str (bytesOf ([45] ++ tdig (val 1000000000 l).toNat)))) ∧ h' = []) ⟨rfl, rfl⟩ l.length (Nat.le_refl _) (by simp)
        have t0 : tdig (val 1000000000 (l.drop l.length)).toNat = [] := by
          rw [List.drop_length]; unfold tdig; simp [val, digs_zero]
        rw [t0, List.append_nil] at g
        rw [if_pos hs]
        exact g
      ·
        have hk : l.length - 1 < l.length := by omega
        have hx := sn.lim.rd (by omega) (l.length - 1)
        have hx0 := norm_rd sn.norm hpos
        have va := val_drop 1000000000 l (l.length - 1) hk
        obtain ⟨x, hX⟩ : ∃ x : Nat, rd l (l.length - 1) = x := ⟨(rd l (l.length - 1)).toNat, by omega⟩
        rw [hX] at hx hx0 va
        have hdn : l.drop (l.length - 1 + 1) = [] := List.drop_of_length_le (by omega)
        rw [hdn] at va
        have hval : (val 1000000000 (l.drop (l.length - 1))).toNat = x := by rw [va]; simp [val]
        have hne : [] ++ tdig (val 1000000000 (l.drop (l.length - 1))).toNat ≠ [] := by
          rw [hval, List.nil_append]
          intro e
          have : (digs 10 x).length = 0 := by rw [← tdig_len, e]; rfl
          have := (digs_nil (B := 10) (by omega) _).1 (List.length_eq_zero_iff.1 this)
          omega
        have g := text_loop s l n1 sn.lim sn.norm [] (by simp) Bytes.nil (fun r' h' => r' = .one (.fz (.str (bytesOf ([] ++ tdig (val 1000000000 l).toNat)))) ∧ h' = []) ⟨rfl, rfl⟩ (l.length - 1) (by omega) hne
        rw [hval, List.nil_append] at g
        have hd9 : (digs 10 x).length ≤ 9 := (digs_len (by omega) _ _).2 (by omega)
        have w2 := writeStringF_ok (itoaS x) (by rw [itoa_of x (by omega), bs_of (tdig_bytes x), tdig_len]; omega)
        rw [itoa_of x (by omega), bs_of (tdig_bytes x)] at w2
        have e2 : IntKind.wrap .i64 ((l.length : Int) - 1) = ((l.length - 1 : Nat) : Int) := by rw [e1]; omega
        have e3 : IntKind.wrap .i64 (((l.length - 1 : Nat) : Int) - 1) = ((l.length - 1 : Nat) : Int) - 1 := w64 (by omega) (by omega)
        have e4 : IntKind.wrap .i64 ((x : Nat) : Int) = (x : Int) := w64 (by omega) (by omega)
        rw [if_neg (by simp [hs])]
        refine num_Text_l1 ?_
        unfold num_Text_R1
        rw [ints_len, e2, e3]
        refine ⟨fun _ => ⟨by omega, ?_⟩, fun h => by simp at h⟩
        rw [Int.toNat_natCast, ex_rd, hX, e4]
        refine ⟨by omega, _, Itoa_fn x (by omega) (by omega), fun h => by simp at h, fun _ => ?_⟩
        rw [itoa_of x (by omega)]
        exact ⟨_, _, w2, g⟩
end Go.Proofs.YtflmioakfboanaaDoor.Ev
end
section
set_option linter.unusedVariables false
set_option maxRecDepth 100000
namespace Go.Proofs.YtflmioakfboanaaDoor.Ev
open Go
def law01_answers_lv : List Nat → Keep := lvOf []
def law01_answers_H (R : TV → List Ob → Prop)  : Prop :=
  (∃ b1 : Bool, (∃ es1 : List (List FV), ((Fn Tryd.prog 35 [(TV.one (AV.fz (FV.int .i64 (-1000000007))))] [] (TV.agg [(AV.fz (FV.bool b1)), (AV.fz (FV.sl 1 es1))]) []) ∧ (∃ s1 : ByteArray, ((Fn Tryd.prog 33 [(TV.agg [(AV.fz (FV.bool b1)), (AV.fz (FV.sl 1 es1))])] [] (TV.one (AV.fz (FV.str s1))) []) ∧ (R (TV.one (AV.fz (FV.bool ((ByteArray.toList s1) == (ByteArray.toList (ByteArray.mk #[45, 49, 48, 48, 48, 48, 48, 48, 48, 48, 55])))))) []))))))
theorem law01_answers_fn  {r : TV} {h : List Ob} (H : law01_answers_H (fun r' h' => r' = r ∧ h' = h) ) : Fn Tryd.prog 12 [] [] r h :=
  Fn.by_tr (M := (modeOf [] [])) (lv := law01_answers_lv) (own := none) (F := Tryd.f12) (by kernel_rfl) (by kernel_rfl) (by first | decide | simp) (by kernel_rfl) H
def law01_light_lv : List Nat → Keep := lvOf []
def law01_light_H (R : TV → List Ob → Prop) (x0 : Bool) (x1 : List (List FV)) : Prop :=
  (R (TV.one (AV.fz (FV.bool (decide ((((List.length x1) : Nat) : Int) ≤ 70))))) [])
theorem law01_light_fn (x0 : Bool) (x1 : List (List FV)) {r : TV} {h : List Ob} (H : law01_light_H (fun r' h' => r' = r ∧ h' = h) x0 x1) : Fn Tryd.prog 13 [(TV.agg [(AV.fz (FV.bool x0)), (AV.fz (FV.sl 1 x1))])] [] r h :=
  Fn.by_tr (M := (modeOf [] [])) (lv := law01_light_lv) (own := none) (F := Tryd.f13) (by kernel_rfl) (by kernel_rfl) (by first | decide | simp) (by kernel_rfl) H
def law01_own_lv : List Nat → Keep := lvOf []
def law01_own_H (R : TV → List Ob → Prop) (x0 : Bool) (x1 : List (List FV)) : Prop :=
  (((((List.length ([] : List (List FV))) + (List.length x1)) * 4) ≤ 140737488355328) ∧ (R (TV.agg [(AV.fz (FV.bool x0)), (AV.fz (FV.sl 1 (([] : List (List FV)) ++ x1)))]) []))
theorem law01_own_fn (x0 : Bool) (x1 : List (List FV)) {r : TV} {h : List Ob} (H : law01_own_H (fun r' h' => r' = r ∧ h' = h) x0 x1) : Fn Tryd.prog 15 [(TV.agg [(AV.fz (FV.bool x0)), (AV.fz (FV.sl 1 x1))])] [] r h :=
  Fn.by_tr (M := (modeOf [] [])) (lv := law01_own_lv) (own := none) (F := Tryd.f15) (by kernel_rfl) (by kernel_rfl) (by first | decide | simp) (by kernel_rfl) H
end Go.Proofs.YtflmioakfboanaaDoor.Ev
end
section
set_option linter.unusedVariables false
set_option linter.unusedSimpArgs false
namespace Go.Proofs.YtflmioakfboanaaDoor.Ev
open Go
theorem Ty.inv_bool {P : Program} {t : TypeId} {fs : List FV} (h : Ty P t fs) (hu : P.underlying t = some .bool) : ∃ b, fs = [.bool b] := by
  cases h <;> simp_all
theorem Ty.inv_int {P : Program} {t : TypeId} {k : IntKind} {fs : List FV} (h : Ty P t fs) (hu : P.underlying t = some (.int k)) : ∃ n, fs = [.int k n] ∧ k.min ≤ n ∧ n ≤ k.max := by
  cases h <;> simp_all
theorem Ty.inv_sl {P : Program} {t e : TypeId} {fs : List FV} (h : Ty P t fs) (hu : P.underlying t = some (.slice e)) : ∃ es, fs = [.sl (P.cellsOf e) es] ∧ es.length * P.bytesOf e ≤ reachBytes ∧ ∀ x ∈ es, Ty P e x := by
  cases h <;> simp_all
theorem Ty.inv_struct {P : Program} {t : TypeId} {ds : Array Field} {fs : List FV} (h : Ty P t fs) (hu : P.underlying t = some (.struct ds)) : ∃ parts : List (List FV), fs = parts.flatten ∧ parts.length = ds.size ∧ ∀ (i : Nat) (f : Field) (x : List FV), ds[i]? = some f → parts[i]? = some x → Ty P f.type x := by
  cases h <;> simp_all
  exact ⟨_, rfl, ‹_›, ‹_›⟩
theorem Ty.inv_ints {P : Program} {t e : TypeId} {k : IntKind} {fs : List FV} (h : Ty P t fs) (hu : P.underlying t = some (.slice e)) (he : P.underlying e = some (.int k)) (hc : P.cellsOf e = 1) :
    ∃ l, fs = [.sl 1 (ints k l)] ∧ (∀ x ∈ l, k.min ≤ x ∧ x ≤ k.max) ∧ l.length * P.bytesOf e ≤ reachBytes := by
  obtain ⟨es, rfl, h1, h2⟩ := h.inv_sl hu
  have : ∃ l, es = ints k l ∧ ∀ x ∈ l, k.min ≤ x ∧ x ≤ k.max := by
    clear h1 h
    induction es with
    | nil => exact ⟨[], rfl, by simp⟩
    | cons x es ih =>
      obtain ⟨l, rfl, h3⟩ := ih fun y hy => h2 y (List.mem_cons_of_mem _ hy)
      obtain ⟨n, rfl, h4, h5⟩ := (h2 x List.mem_cons_self).inv_int he
      exact ⟨n :: l, by simp [ints], fun y hy => by
        rcases List.mem_cons.1 hy with rfl | hy
        · exact ⟨h4, h5⟩
        · exact h3 y hy⟩
  obtain ⟨l, rfl, h3⟩ := this
  exact ⟨l, by rw [hc], h3, by rwa [ints_len] at h1⟩
theorem two_parts {α : Type} {l : List α} (h : l.length = 2) : ∃ a b, l = [a, b] := by
  match l, h with
  | [a, b], _ => exact ⟨a, b, rfl⟩
theorem tyV_int {t : TypeId} {k : IntKind} {x : TV} (h : TyV Tryd.prog t x) (hu : Tryd.prog.underlying t = some (.int k)) : ∃ n, x = fzI k n ∧ k.min ≤ n ∧ n ≤ k.max := by
  rcases h with ⟨fs, rfl, h, ds, hd⟩ | ⟨f, rfl, h⟩
  · rw [hu] at hd; cases hd
  · obtain ⟨n, h, h1, h2⟩ := h.inv_int hu
    cases h
    exact ⟨n, rfl, h1, h2⟩
theorem ty_Int {fs : List FV} (h : Ty Tryd.prog 24 fs) : ∃ s l, fs = [.bool s, .sl 1 (ints .u32 l)] ∧ U32 l ∧ l.length * 4 ≤ reachBytes := by
  obtain ⟨parts, rfl, h1, h2⟩ := h.inv_struct Tryd.underlying24
  obtain ⟨a, b, rfl⟩ := two_parts h1
  obtain ⟨s, rfl⟩ := (h2 0 _ a rfl rfl).inv_bool Tryd.underlying4
  obtain ⟨l, rfl, h3, h4⟩ := (h2 1 _ b rfl rfl).inv_ints Tryd.underlying22 Tryd.underlying48 (by kernel_rfl)
  refine ⟨s, l, rfl, fun x hx => ?_, ?_⟩
  · have := h3 x hx
    simp [IntKind.min, IntKind.max, IntKind.signed, IntKind.bits] at this
    omega
  · have e : Tryd.prog.bytesOf 48 = 4 := by kernel_rfl
    rwa [e] at h4
theorem tyV_Int {x : TV} (h : TyV Tryd.prog 24 x) : ∃ s l, x = fzN s l ∧ U32 l ∧ l.length * 4 ≤ 140737488355328 := by
  rcases h with ⟨fs, rfl, h, _⟩ | ⟨f, rfl, h⟩
  · obtain ⟨s, l, rfl, h1, h2⟩ := ty_Int h
    exact ⟨s, l, rfl, h1, Nat.le_trans h2 (by decide)⟩
  · obtain ⟨s, l, h, _⟩ := ty_Int h
    simp at h
theorem answers_ok : Fn Tryd.prog 12 [] [] (fzB true) [] := by
  refine law01_answers_fn ?_
  unfold law01_answers_H
  have e1 : bigN (-1000000007) = true := rfl
  have e2 : bigL (-1000000007) = [7, 1] := by
    unfold bigL
    rw [show (-1000000007 : Int).natAbs = 1000000007 from rfl, digs_pos (by omega) (by omega), digs_pos (by omega) (by omega), show 1000000007 / 1000000000 / 1000000000 = 0 from rfl, digs_zero]
    rfl
  refine ⟨_, _, ofInt_ok _ (by omega) (by omega), _, text_ok _ _ ?_ ?_, ?_⟩
  · rw [e2]; intro x hx; simp at hx; omega
  · rw [e2]; simp
  · rw [e1, e2]
    have e3 : numT true [7, 1] = [45, 49, 48, 48, 48, 48, 48, 48, 48, 48, 55] := by
      have : sndB true [7, 1] = true := by decide
      unfold numT
      rw [if_pos this, if_neg (by decide)]
      have : (val 1000000000 [7, 1]).toNat = 1000000007 := by decide
      rw [this]
      unfold tdig
      have : digs 10 1000000007 = [7, 0, 0, 0, 0, 0, 0, 0, 0, 1] := by
        simp [digs_pos, digs_zero]
      rw [this]
      rfl
    rw [e3]
    exact ⟨by congr 4; decide +kernel, rfl⟩
theorem light_ok (s : Bool) (l : List Int) : Fn Tryd.prog 13 [fzN s l] [] (fzB (decide (l.length ≤ 70))) [] := by
  refine law01_light_fn _ _ ?_
  unfold law01_light_H
  rw [ints_len]
  have : decide (((l.length : Nat) : Int) ≤ 70) = decide (l.length ≤ 70) := by rw [decide_eq_decide]; omega
  rw [this]
  exact ⟨rfl, rfl⟩
theorem own_ok (s : Bool) (l : List Int) (hl : l.length * 4 ≤ 140737488355328) : Fn Tryd.prog 15 [fzN s l] [] (fzN s l) [] := by
  refine law01_own_fn _ _ ?_
  unfold law01_own_H
  rw [List.nil_append, ints_len]
  exact ⟨by simpa using hl, rfl, rfl⟩
end Go.Proofs.YtflmioakfboanaaDoor.Ev
end
section
set_option linter.unusedVariables false
set_option linter.unusedSimpArgs false
namespace Go.Proofs.YtflmioakfboanaaDoor.Ev
open Go
theorem bigL_le {z : Int} (h : z.natAbs < 1000000000 ^ 64) : (bigL z).length ≤ 64 := (bigL_len z 64).2 h
section
variable {x y z : Int} (hx : x.natAbs < 1000000000 ^ 64) (hy : y.natAbs < 1000000000 ^ 64)
include hx hy
end
theorem same_self (s : Bool) (l : List Int) (h : l.length ≤ 1000000) : Fn Tryd.prog 17 [fzN s l, fzN s l] [] (fzB true) [] := by
  have e := same_ok s s l l h
  rwa [decide_eq_true (show s = s ∧ l = l from ⟨rfl, rfl⟩)] at e
end Go.Proofs.YtflmioakfboanaaDoor.Ev
end
section
set_option linter.unusedVariables false
set_option linter.unusedSimpArgs false
namespace Go.Proofs.YtflmioakfboanaaDoor.Ev
open Go Go.RowKit
def errV (b : Bool) (v : Value) : Prop := if b = true then ∃ t u, v = .iface t u else v = .nilIface
theorem Fn.of_below_ie {P : Program} {f : FuncId} (xs : List FV) {vs : List Value} {n : Int} {b : Bool} (hx : xs.mapM bareV = some vs)
    (hc : ∀ w, Glob w → Calls P f vs.toArray w fun e w' => (∃ v, e = .returned (.tuple #[.int .i64 n, v]) ∧ errV b v) ∧ Below w.heap.size w w') : Fn P f (xs.map fun x => .one (.fz x)) [] (.tup [(false, [.fz (.int .i64 n)]), (false, [.fz (.ifc b)])]) [] := by
  intro ext w locs vals H hsz hrep
  have e : vals = vs.toArray := by
    have := args_bare xs vs vals.toList hx (by simpa using hsz) (fun i x h => by obtain ⟨v, h1, h2⟩ := hrep i x h; exact ⟨v, by simpa using h1, h2⟩)
    rw [← this]
  subst e
  refine (hc w H.glob).mono ?_
  rintro e w' ⟨⟨v, rfl, hv⟩, hb⟩
  refine ⟨.tuple #[.int .i64 n, v], locs, rfl, H.below hb, #[.int .i64 n, v], rfl, rfl, fun i b' cs hi => ?_⟩
  match i with
  | 0 =>
    cases hi
    refine ⟨.int .i64 n, rfl, [.int .i64 n], rfl, rfl, fun _ => rfl, fun j x hj => ?_⟩
    cases j with
    | zero => cases hj; exact ⟨_, rfl, .int _ _⟩
    | succ j => simp at hj
  | 1 =>
    cases hi
    refine ⟨v, rfl, [v], rfl, rfl, fun _ => rfl, fun j x hj => ?_⟩
    cases j with
    | zero =>
      cases hj
      refine ⟨v, rfl, ?_⟩
      cases b
      · have : v = .nilIface := hv
        subst this
        exact .ifcN
      · obtain ⟨t, u, rfl⟩ := hv
        exact .ifcS _ _
    | succ j => simp at hj
  | i + 2 => simp at hi
theorem tab_ifc {w : World} {g : Nat} (h : TabAt w (fun _ => True) g [.ifc true]) : ∃ t u, w.cell? ⟨g, 0, none⟩ = some (.iface t u) := by
  obtain ⟨c, t, z, h1, h2, h3⟩ := h
  obtain ⟨v, hv, hr⟩ := h3 0 _ rfl
  cases hr
  rename_i t' v'
  exact ⟨t', v', by simp [World.cell?, h1, hv]⟩
def atoiV (s : ByteArray) : Int := match Lib.atoiAll s.data.toList with
  | .ok v => v
  | .range => Lib.atoiSat s.data.toList
  | _ => 0
def atoiE (s : ByteArray) : Bool := match Lib.atoiAll s.data.toList with
  | .ok _ => false
  | _ => true
theorem Atoi_fn (s : ByteArray) (hs : s.size ≤ 281474976710656) : Fn Tryd.prog 55 [.one (.fz (.str s))] [] (.tup [(false, [.fz (.int .i64 (atoiV s))]), (false, [.fz (.ifc (atoiE s))])]) [] :=
  Fn.of_below_ie [.str s] rfl fun w hg => by
    unfold atoiV atoiE
    cases h : Lib.atoiAll s.data.toList
    case ok v =>
      refine (Tryd.strconv_Atoi_ok s (by omega) v h w).mono ?_
      rintro e w' ⟨rfl, hw⟩
      refine ⟨⟨_, rfl, rfl⟩, ?_⟩
      rcases hw with rfl | ⟨t, rfl⟩
      · exact Below.refl _ _
      · exact Lib.bytesWorld_below _ _ _
    case range =>
      have h1 := hg (1, [.ifc true]) (by simp [tabs])
      obtain ⟨t, u, h2⟩ := tab_ifc h1
      refine (Tryd.strconv_Atoi_range s hs h _ w h2 (.inr ⟨_, _, rfl⟩)).mono ?_
      rintro e w' ⟨N, rfl, _, _, hb⟩
      exact ⟨⟨_, rfl, _, _, rfl⟩, hb⟩
    all_goals
      have h1 := hg (0, [.ifc true]) (by simp [tabs])
      obtain ⟨t, u, h2⟩ := tab_ifc h1
      refine (Tryd.strconv_Atoi_syntax s hs h _ w h2 (.inr ⟨_, _, rfl⟩)).mono ?_
      rintro e w' ⟨N, rfl, _, _, hb⟩
      exact ⟨⟨_, rfl, _, _, rfl⟩, hb⟩
end Go.Proofs.YtflmioakfboanaaDoor.Ev
end
section
set_option linter.unusedVariables false
set_option maxRecDepth 100000
namespace Go.Proofs.YtflmioakfboanaaDoor.Ev
open Go
def num_Small_lv : List Nat → Keep := lvOf []
def num_Small_H (R : TV → List Ob → Prop) (x0 : Bool) (x1 : List (List FV)) : Prop :=
  (∃ b2 : Bool, ((Fn Tryd.prog 32 [(TV.agg [(AV.fz (FV.bool x0)), (AV.fz (FV.sl 1 x1))])] [] (TV.one (AV.fz (FV.bool b2))) []) ∧ ((((Bool.not b2) = true) → (R (TV.tup [(false, [(AV.fz (FV.int .i64 0))]), (false, [(AV.fz (FV.bool false))])]) [])) ∧ (((Bool.not b2) = false) → ((((decide ((3 : Int) < (((List.length x1) : Nat) : Int))) = true) → (R (TV.tup [(false, [(AV.fz (FV.int .i64 0))]), (false, [(AV.fz (FV.bool false))])]) [])) ∧ (((decide ((3 : Int) < (((List.length x1) : Nat) : Int))) = false) → (∃ s1 : ByteArray, ((Fn Tryd.prog 33 [(TV.agg [(AV.fz (FV.bool x0)), (AV.fz (FV.sl 1 x1))])] [] (TV.one (AV.fz (FV.str s1))) []) ∧ (∃ n1 : Int, (∃ b3 : Bool, ((Fn Tryd.prog 55 [(TV.one (AV.fz (FV.str s1)))] [] (TV.tup [(false, [(AV.fz (FV.int .i64 n1))]), (false, [(AV.fz (FV.ifc b3))])]) []) ∧ ((((Bool.not (Bool.not b3)) = true) → (R (TV.tup [(false, [(AV.fz (FV.int .i64 0))]), (false, [(AV.fz (FV.bool false))])]) [])) ∧ (((Bool.not (Bool.not b3)) = false) → (R (TV.tup [(false, [(AV.fz (FV.int .i64 n1))]), (false, [(AV.fz (FV.bool true))])]) []))))))))))))))
theorem num_Small_fn (x0 : Bool) (x1 : List (List FV)) {r : TV} {h : List Ob} (H : num_Small_H (fun r' h' => r' = r ∧ h' = h) x0 x1) : Fn Tryd.prog 30 [(TV.agg [(AV.fz (FV.bool x0)), (AV.fz (FV.sl 1 x1))])] [] r h :=
  Fn.by_tr (M := (modeOf [] [])) (lv := num_Small_lv) (own := none) (F := Tryd.f30) (by kernel_rfl) (by kernel_rfl) (by first | decide | simp) (by kernel_rfl) H
end Go.Proofs.YtflmioakfboanaaDoor.Ev
end
section
set_option linter.unusedVariables false
set_option linter.unusedSimpArgs false
namespace Go.Proofs.YtflmioakfboanaaDoor.Ev
open Go
def bv (acc : Int) (ds : List Int) : Int := ds.foldl (fun a d => a * 10 + d) acc
def ub (ds : List Int) : List UInt8 := ds.map fun d => UInt8.ofNat (48 + d).toNat
theorem bv_snoc (acc : Int) (ds : List Int) (d : Int) : bv acc (ds ++ [d]) = bv acc ds * 10 + d := by simp [bv]
theorem bv_val : ∀ l : List Int, bv 0 l.reverse = val 10 l
  | [] => rfl
  | d :: l => by rw [List.reverse_cons, bv_snoc, bv_val l]; show _ = d + 10 * val 10 l; omega
theorem bv_ge : ∀ (ds : List Int) (acc : Int), 0 ≤ acc → Lim 10 ds → acc ≤ bv acc ds
  | [], acc, _, _ => Int.le_refl _
  | d :: ds, acc, h0, h => by
    have hd := h d List.mem_cons_self
    have := bv_ge ds (acc * 10 + d) (by omega) (fun x hx => h x (List.mem_cons_of_mem _ hx))
    show acc ≤ bv (acc * 10 + d) ds
    omega
theorem ub_digit {d : Int} (h0 : 0 ≤ d) (h1 : d < 10) : (UInt8.ofNat (48 + d).toNat).toNat = 48 + d.toNat := by
  rw [UInt8.toNat_ofNat']; omega
theorem parse_ub : ∀ (ds : List Int) (acc : Nat), acc < 18446744073709551616 → Lim 10 ds → Lib.parseUint10 acc (ub ds) = if bv acc ds < 18446744073709551616 then .ok (bv acc ds).toNat else .range
  | [], acc, ha, _ => by
    show Lib.NumEnd.ok acc = _
    have : bv acc [] = acc := rfl
    rw [this, if_pos (by omega)]; simp
  | d :: ds, acc, ha, h => by
    have hd := h d List.mem_cons_self
    have ht : Lim 10 ds := fun x hx => h x (List.mem_cons_of_mem _ hx)
    have e := ub_digit hd.1 hd.2
    show Lib.parseUint10 acc (UInt8.ofNat (48 + d).toNat :: ub ds) = _
    have hb : bv acc (d :: ds) = bv (acc * 10 + d) ds := rfl
    have hg := bv_ge ds (acc * 10 + d) (by omega) ht
    unfold Lib.parseUint10
    rw [e, if_pos (by omega), hb]
    have e2 : 48 + d.toNat - 48 = d.toNat := by omega
    rw [e2]
    by_cases h1 : 1844674407370955162 ≤ acc
    · rw [if_pos h1, if_neg (by omega)]
    · rw [if_neg h1]
      by_cases h2 : 18446744073709551616 ≤ acc * 10 + d.toNat
      · rw [if_pos h2, if_neg (by omega)]
      · rw [if_neg h2, parse_ub ds _ (by omega) ht]
        have : (((acc * 10 + d.toNat : Nat)) : Int) = acc * 10 + d := by omega
        rw [this]
theorem ub_tdig (n : Nat) : (tdig n).map (fun n => UInt8.ofNat n.toNat) = ub (digs 10 n).reverse := by
  simp [tdig, ub]
theorem parse_tdig {n : Nat} (h : 0 < n) : Lib.parseMag (ub (digs 10 n).reverse) = if n < 18446744073709551616 then .ok n else .range := by
  unfold Lib.parseMag
  have hne : ub (digs 10 n).reverse ≠ [] := by
    rw [ne_eq, ub, List.map_eq_nil_iff, List.reverse_eq_nil_iff, digs_nil (by omega)]; omega
  have hlim : Lim 10 (digs 10 n).reverse := fun x hx => digsT_lim n x (by simpa using hx)
  rw [if_neg hne, parse_ub _ 0 (by omega) hlim]
  rw [show ((0 : Nat) : Int) = 0 from rfl, bv_val, digsT_val]
  by_cases h1 : n < 18446744073709551616
  · rw [if_pos h1, if_pos (by omega)]; simp
  · rw [if_neg h1, if_neg (by omega)]
def i64B (z : Int) : Bool := decide (-9223372036854775808 ≤ z ∧ z ≤ 9223372036854775807)
theorem atoi_pos {n : Nat} (h : 0 < n) : Lib.atoiAll (ub (digs 10 n).reverse) = if i64B n = true then .ok (n : Int) else .range := by
  have hp := parse_tdig h
  have hlim : Lim 10 (digs 10 n).reverse := fun x hx => digsT_lim n x (by simpa using hx)
  revert hp hlim
  have hne : (digs 10 n).reverse ≠ [] := by
    rw [ne_eq, List.reverse_eq_nil_iff, digs_nil (by omega)]; omega
  generalize (digs 10 n).reverse = ds at hne ⊢
  intro hp hlim
  match ds, hne with
  | d :: ds, _ =>
    have hd := hlim d List.mem_cons_self
    have e := ub_digit hd.1 hd.2
    rw [show ub (d :: ds) = UInt8.ofNat (48 + d).toNat :: ub ds from rfl] at hp ⊢
    rw [Lib.atoiAll_plain _ _ (by rw [e]; omega) (by rw [e]; omega), hp]
    unfold i64B
    by_cases h1 : n < 18446744073709551616
    · rw [if_pos h1]
      show (if 9223372036854775808 ≤ n then Lib.NumEnd.range else .ok (n : Int)) = _
      by_cases h2 : 9223372036854775808 ≤ n
      · rw [if_pos h2, if_neg (by simp; omega)]
      · rw [if_neg h2, if_pos (by simp; omega)]
    · rw [if_neg h1, if_neg (by simp; omega)]
      rfl
theorem atoi_neg {n : Nat} (h : 0 < n) : Lib.atoiAll (45 :: ub (digs 10 n).reverse) = if i64B (-(n : Int)) = true then .ok (-(n : Int)) else .range := by
  rw [Lib.atoiAll_minus, parse_tdig h]
  unfold i64B
  by_cases h1 : n < 18446744073709551616
  · rw [if_pos h1]
    show (if 9223372036854775808 < n then Lib.NumEnd.range else .ok (-(n : Int))) = _
    by_cases h2 : 9223372036854775808 < n
    · rw [if_pos h2, if_neg (by simp; omega)]
    · rw [if_neg h2, if_pos (by simp; omega)]
  · rw [if_neg h1, if_neg (by simp; omega)]
    rfl
theorem data_of (l : List Int) : (bytesOf l).data.toList = l.map fun n => UInt8.ofNat n.toNat := by simp [bytesOf]
theorem atoi_num {s : Bool} {l : List Int} (h : Snd s l) (hb : sndB s l = true) : Lib.atoiAll (bytesOf (numT s l)).data.toList = if i64B (sv s l) = true then .ok (sv s l) else .range := by
  have h0 := val_nonneg (B := 1000000000) (by omega) h.lim
  have hz := val_zero_iff (B := 1000000000) (by omega) h.lim h.norm
  rw [data_of]
  unfold numT
  rw [if_pos hb]
  by_cases hl : l.length = 0
  · have : l = [] := List.length_eq_zero_iff.1 hl
    subst this
    have : s = false := h.sign rfl
    subst this
    rw [if_pos (show ([] : List Int).length = 0 from rfl)]
    decide +kernel
  · rw [if_neg hl]
    have hv : 0 < val 1000000000 l := by
      rcases Int.lt_or_eq_of_le h0 with h | h
      · exact h
      · exact absurd (hz.1 h.symm) (fun e => hl (by rw [e]; rfl))
    cases s
    · rw [if_neg (by decide), List.nil_append, ub_tdig, atoi_pos (by omega), sv_false, Int.toNat_of_nonneg h0]
    · rw [if_pos rfl, List.map_append, ub_tdig]
      show Lib.atoiAll (45 :: ub (digs 10 (val 1000000000 l).toNat).reverse) = _
      rw [atoi_neg (by omega), sv_true, Int.toNat_of_nonneg h0]
def smB (s : Bool) (l : List Int) : Bool := sndB s l && i64B (sv s l)
def smV (s : Bool) (l : List Int) : Int := if smB s l = true then sv s l else 0
abbrev smT (s : Bool) (l : List Int) : TV := .tup [(false, [.fz (.int .i64 (smV s l))]), (false, [.fz (.bool (smB s l))])]
theorem smT_bad {s : Bool} {l : List Int} (h : smB s l = false) : smT s l = .tup [(false, [.fz (.int .i64 0)]), (false, [.fz (.bool false)])] := by
  unfold smT smV; rw [h]; rfl
theorem smT_ok {s : Bool} {l : List Int} (h : smB s l = true) : smT s l = .tup [(false, [.fz (.int .i64 (sv s l))]), (false, [.fz (.bool true)])] := by
  unfold smT smV; rw [h]; rfl
theorem sm_long {s : Bool} {l : List Int} (h : Snd s l) (h3 : 3 < l.length) : smB s l = false := by
  have h1 := norm_le (B := 1000000000) (by omega) h.lim h.norm (fun e => by rw [e] at h3; simp at h3)
  have h2 := pow_mono (B := 1000000000) (by omega) (show 3 ≤ l.length - 1 by omega)
  have h4 : (1000000000 : Int) ^ 3 = 1000000000000000000000000000 := by decide
  have h5 := sv_natAbs s l h.lim
  unfold smB i64B
  rw [Bool.and_eq_false_iff]
  refine .inr (decide_eq_false ?_)
  omega
theorem small_ok (s : Bool) (l : List Int) (hu : U32 l) (hl : l.length ≤ 100000) : Fn Tryd.prog 30 [fzN s l] [] (smT s l) [] := by
  refine num_Small_fn _ _ ?_
  unfold num_Small_H
  refine ⟨_, sound_ok s l (by omega), ?_⟩
  rw [not_t, not_f]
  refine ⟨fun h => ⟨(smT_bad (by unfold smB; rw [h]; rfl)).symm, rfl⟩, fun hb => ?_⟩
  have hs := (sndB_iff hu).1 hb
  rw [ints_len, dec_t, dec_f]
  refine ⟨fun h => ⟨(smT_bad (sm_long hs (by omega))).symm, rfl⟩, fun h3 => ⟨_, text_ok s l hu hl, _, _, Atoi_fn _ ?_, ?_⟩⟩
  · rw [size_of]
    unfold numT
    rw [if_pos hb]
    have : (tdig (val 1000000000 l).toNat).length ≤ 576 := by rw [tdig_len]; exact dig_len hs
    split
    · simp
    · split <;> simp <;> omega
  · have ha := atoi_num hs hb
    unfold atoiE atoiV
    by_cases hi : i64B (sv s l) = true
    · rw [if_pos hi] at ha
      rw [ha]
      have : smB s l = true := by unfold smB; rw [hb, hi]; rfl
      rw [smT_ok this]
      exact ⟨fun h => (by cases h), fun _ => ⟨rfl, rfl⟩⟩
    · rw [if_neg hi] at ha
      rw [ha]
      have : smB s l = false := by unfold smB; rw [hb]; simpa using hi
      rw [smT_bad this]
      exact ⟨fun _ => ⟨rfl, rfl⟩, fun h => (by cases h)⟩
theorem rsmall_loop (s : Bool) (l : List Int) (hs : Snd s l) (hb : sndB s l = true) (d : List Int) (hd : d.length ≤ 19) (hL : Lim 10 d) (hv : val 10 d = val 1000000000 l) (R : TV → List Ob → Prop) (hR : R (smT s l) []) :
    ∀ k : Nat, k ≤ d.length → ref01_Small_L0 R s (ints .u32 l) (ints .u8 d) (val 10 (d.drop k)) ((k : Int) - 1)
  | 0, _ => by
    refine ref01_Small_l0 ?_
    unfold ref01_Small_R0
    rw [List.drop_zero, hv]
    have h0 := val_nonneg (B := 1000000000) (by omega) hs.lim
    have hlt := val_lt (B := 10) (by omega) hL
    have hp := pow_mono (B := 10) (by omega) hd
    have e19 : (10 : Int) ^ 19 = 10000000000000000000 := by decide
    rw [hv] at hlt
    simp only [dec_t, dec_f]
    refine ⟨fun h => by omega, fun _ => ⟨fun hs1 => ?_, fun hs1 => ?_⟩⟩
    · subst hs1
      refine ⟨fun h => ?_, fun h => ?_⟩
      · have : smB true l = false := by
          unfold smB i64B; rw [hb, sv_true]; simp; omega
        rw [smT_bad this] at hR; exact hR
      · have : smB true l = true := by
          unfold smB i64B; rw [hb, sv_true]; simp; omega
        have hpos : 0 < val 1000000000 l := snd_pos hs
        have e : IntKind.wrap .i64 (IntKind.wrap .u64 (0 - val 1000000000 l)) = - val 1000000000 l := by
          have e1 : IntKind.wrap .u64 (0 - val 1000000000 l) = 18446744073709551616 - val 1000000000 l := by
            simp [IntKind.wrap, IntKind.signed, IntKind.bits]; omega
          rw [e1]
          simp [IntKind.wrap, IntKind.signed, IntKind.bits]
          split <;> omega
        rw [smT_ok this, sv_true] at hR; rw [e]; exact hR
    · subst hs1
      refine ⟨fun h => ?_, fun h => ?_⟩
      · have : smB false l = false := by
          unfold smB i64B; rw [hb, sv_false]; simp; omega
        rw [smT_bad this] at hR; exact hR
      · have : smB false l = true := by
          unfold smB i64B; rw [hb, sv_false]; simp; omega
        rw [smT_ok this, sv_false] at hR; rw [w64 (by omega) (by omega)]; exact hR
  | k + 1, hk => by
    refine ref01_Small_l0 ?_
    unfold ref01_Small_R0
    have ih := rsmall_loop s l hs hb d hd hL hv R hR k (by omega)
    have hx := (hL.rd (by omega) k)
    have hd1 := val_drop 10 d k (by omega)
    have hdl : Lim 10 (d.drop k) := hL.drop k
    have hdn := val_nonneg (B := 10) (by omega) (hL.drop (k + 1))
    have hlt := val_lt (B := 10) (by omega) hdl
    have hp := pow_mono (B := 10) (by omega) (show (d.drop k).length ≤ 19 by rw [List.length_drop]; omega)
    have e19 : (10 : Int) ^ 19 = 10000000000000000000 := by decide
    have e : ((k + 1 : Nat) : Int) - 1 = (k : Int) := by omega
    rw [e]
    simp only [dec_t, dec_f, ex_rd, Int.toNat_natCast]
    refine ⟨fun _ => ⟨by omega, by omega, ?_⟩, fun h => by omega⟩
    rw [w64 (n := (k : Int) - 1) (by omega) (by omega), wu64 (n := val 10 (d.drop (k + 1)) * 10) (by omega) (by omega), wu64 (n := rd d k) (by omega) (by omega), wu64 (by omega) (by omega)]
    rw [hd1] at ih
    rw [show val 10 (d.drop (k + 1)) * 10 + rd d k = rd d k + 10 * val 10 (d.drop (k + 1)) by omega]
    exact ih
theorem rsmall_ok (s : Bool) (l : List Int) (hu : U32 l) (hl : l.length ≤ 100000) : Fn Tryd.prog 31 [fzN s l] [] (smT s l) [] := by
  refine ref01_Small_fn _ _ ?_
  unfold ref01_Small_H
  refine ⟨_, rsound_ok s l (by omega), ?_⟩
  rw [not_t, not_f]
  refine ⟨fun h => ⟨(smT_bad (by unfold smB; rw [h]; rfl)).symm, rfl⟩, fun hb => ?_⟩
  have hs := (sndB_iff hu).1 hb
  have hlen := hs.len
  have h0 := val_nonneg (B := 1000000000) (by omega) hs.lim
  have hdl := dig_len hs
  refine ⟨_, digits_ok s l (by omega) hs.lim, ?_⟩
  rw [ints_len, dec_t, dec_f]
  have hv : val 10 (digs 10 (val 1000000000 l).toNat) = val 1000000000 l := by rw [digsT_val]; omega
  refine ⟨fun h => ⟨(smT_bad ?_).symm, rfl⟩, fun h => ?_⟩
  · have h1 : ¬ (digs 10 (val 1000000000 l).toNat).length ≤ 19 := by omega
    rw [digs_len (by omega)] at h1
    have h5 := sv_natAbs s l hs.lim
    have e19 : (10 : Nat) ^ 19 = 10000000000000000000 := by decide
    unfold smB i64B
    rw [Bool.and_eq_false_iff]
    refine .inr (decide_eq_false ?_)
    omega
  · have := rsmall_loop s l hs hb _ (show (digs 10 (val 1000000000 l).toNat).length ≤ 19 by omega) (digsT_lim _) hv (fun r' h' => r' = smT s l ∧ h' = []) ⟨rfl, rfl⟩ _ (Nat.le_refl _)
    rw [List.drop_length] at this
    rw [w64 (by omega) (by omega)]
    exact this
end Go.Proofs.YtflmioakfboanaaDoor.Ev
end
section
set_option linter.unusedVariables false
set_option maxRecDepth 100000
namespace Go.Proofs.YtflmioakfboanaaDoor.Ev
open Go
def law01_NumTexts_lv : List Nat → Keep := lvOf []
def law01_NumTexts_H (R : TV → List Ob → Prop) (x0 : Bool) (x1 : List (List FV)) (n : Int) : Prop :=
  (∃ b14 : Bool, ((Fn Tryd.prog 12 [] [] (TV.one (AV.fz (FV.bool b14))) []) ∧ ((((Bool.not b14) = true) → (∃ b15 : Bool, ((Fn Tryd.prog 12 [] [] (TV.one (AV.fz (FV.bool b15))) []) ∧ (R (TV.one (AV.fz (FV.bool b15))) [])))) ∧ (((Bool.not b14) = false) → (∃ b16 : Bool, ((Fn Tryd.prog 13 [(TV.agg [(AV.fz (FV.bool x0)), (AV.fz (FV.sl 1 x1))])] [] (TV.one (AV.fz (FV.bool b16))) []) ∧ ((((Bool.not b16) = true) → (∃ b17 : Bool, ((Fn Tryd.prog 12 [] [] (TV.one (AV.fz (FV.bool b17))) []) ∧ (R (TV.one (AV.fz (FV.bool b17))) [])))) ∧ (((Bool.not b16) = false) → (∃ b18 : Bool, (∃ es5 : List (List FV), ((Fn Tryd.prog 15 [(TV.agg [(AV.fz (FV.bool x0)), (AV.fz (FV.sl 1 x1))])] [] (TV.agg [(AV.fz (FV.bool b18)), (AV.fz (FV.sl 1 es5))]) []) ∧ (∃ n3 : Int, (∃ b19 : Bool, ((Fn Tryd.prog 30 [(TV.agg [(AV.fz (FV.bool b18)), (AV.fz (FV.sl 1 es5))])] [] (TV.tup [(false, [(AV.fz (FV.int .i64 n3))]), (false, [(AV.fz (FV.bool b19))])]) []) ∧ (∃ n4 : Int, (∃ b20 : Bool, ((Fn Tryd.prog 31 [(TV.agg [(AV.fz (FV.bool x0)), (AV.fz (FV.sl 1 x1))])] [] (TV.tup [(false, [(AV.fz (FV.int .i64 n4))]), (false, [(AV.fz (FV.bool b20))])]) []) ∧ (∃ b21 : Bool, (∃ es6 : List (List FV), ((Fn Tryd.prog 15 [(TV.agg [(AV.fz (FV.bool x0)), (AV.fz (FV.sl 1 x1))])] [] (TV.agg [(AV.fz (FV.bool b21)), (AV.fz (FV.sl 1 es6))]) []) ∧ (∃ b22 : Bool, ((Fn Tryd.prog 32 [(TV.agg [(AV.fz (FV.bool b21)), (AV.fz (FV.sl 1 es6))])] [] (TV.one (AV.fz (FV.bool b22))) []) ∧ (∃ b23 : Bool, ((Fn Tryd.prog 24 [(TV.agg [(AV.fz (FV.bool x0)), (AV.fz (FV.sl 1 x1))])] [] (TV.one (AV.fz (FV.bool b23))) []) ∧ ((((b22 == b23) = true) → (∃ b24 : Bool, (∃ es7 : List (List FV), ((Fn Tryd.prog 15 [(TV.agg [(AV.fz (FV.bool x0)), (AV.fz (FV.sl 1 x1))])] [] (TV.agg [(AV.fz (FV.bool b24)), (AV.fz (FV.sl 1 es7))]) []) ∧ (∃ s2 : ByteArray, ((Fn Tryd.prog 33 [(TV.agg [(AV.fz (FV.bool b24)), (AV.fz (FV.sl 1 es7))])] [] (TV.one (AV.fz (FV.str s2))) []) ∧ (∃ s3 : ByteArray, ((Fn Tryd.prog 34 [(TV.agg [(AV.fz (FV.bool x0)), (AV.fz (FV.sl 1 x1))])] [] (TV.one (AV.fz (FV.str s3))) []) ∧ (((((ByteArray.toList s2) == (ByteArray.toList s3)) = true) → ((((n3 == n4) = true) → ((((b19 == b20) = true) → (∃ b25 : Bool, (∃ es8 : List (List FV), ((Fn Tryd.prog 35 [(TV.one (AV.fz (FV.int .i64 n)))] [] (TV.agg [(AV.fz (FV.bool b25)), (AV.fz (FV.sl 1 es8))]) []) ∧ (∃ b26 : Bool, (∃ es9 : List (List FV), ((Fn Tryd.prog 29 [(TV.one (AV.fz (FV.int .i64 n)))] [] (TV.agg [(AV.fz (FV.bool b26)), (AV.fz (FV.sl 1 es9))]) []) ∧ (∃ b27 : Bool, ((Fn Tryd.prog 17 [(TV.agg [(AV.fz (FV.bool b25)), (AV.fz (FV.sl 1 es8))]), (TV.agg [(AV.fz (FV.bool b26)), (AV.fz (FV.sl 1 es9))])] [] (TV.one (AV.fz (FV.bool b27))) []) ∧ (R (TV.one (AV.fz (FV.bool b27))) [])))))))))) ∧ (((b19 == b20) = false) → (R (TV.one (AV.fz (FV.bool false))) [])))) ∧ (((n3 == n4) = false) → (R (TV.one (AV.fz (FV.bool false))) [])))) ∧ ((((ByteArray.toList s2) == (ByteArray.toList s3)) = false) → (R (TV.one (AV.fz (FV.bool false))) []))))))))))) ∧ (((b22 == b23) = false) → (R (TV.one (AV.fz (FV.bool false))) [])))))))))))))))))))))))))))
theorem law01_NumTexts_fn (x0 : Bool) (x1 : List (List FV)) (n : Int) {r : TV} {h : List Ob} (H : law01_NumTexts_H (fun r' h' => r' = r ∧ h' = h) x0 x1 n) : Fn Tryd.prog 8 [(TV.agg [(AV.fz (FV.bool x0)), (AV.fz (FV.sl 1 x1))]), (TV.one (AV.fz (FV.int .i64 n)))] [] r h :=
  Fn.by_tr (M := (modeOf [] [])) (lv := law01_NumTexts_lv) (own := none) (F := Tryd.f8) (by kernel_rfl) (by kernel_rfl) (by first | decide | simp) (by kernel_rfl) H
end Go.Proofs.YtflmioakfboanaaDoor.Ev
end
section
set_option linter.unusedVariables false
namespace Go.Proofs.YtflmioakfboanaaDoor.Ev
open Go
theorem law_NumTexts (xs : List TV) (h : TyAll Tryd.prog [24, 3] xs) : Fn Tryd.prog 8 xs [] (.one (.fz (.bool true))) [] := by
  cases h with
  | cons h1 h =>
  cases h with
  | cons h2 h =>
  cases h
  obtain ⟨a, la, rfl, ha, la1⟩ := tyV_Int h1
  obtain ⟨n, rfl, n0, n1⟩ := tyV_int h2 Tryd.underlying3
  have n0 : -9223372036854775808 ≤ n := n0
  have n1 : n ≤ 9223372036854775807 := n1
  refine law01_NumTexts_fn _ _ _ ?_
  unfold law01_NumTexts_H
  refine ⟨_, answers_ok, by simp, fun _ => ⟨_, light_ok a la, ?_⟩⟩
  rw [not_t, not_f]
  refine ⟨fun _ => ⟨_, answers_ok, rfl, rfl⟩, fun hl => ?_⟩
  have l1 : la.length ≤ 70 := by simpa using hl
  have l2 : (bigL n).length ≤ 64 := bigL_le (Nat.lt_of_le_of_lt (show n.natAbs ≤ 9223372036854775808 by omega) (by decide +kernel))
  refine ⟨_, _, own_ok a la la1, _, _, small_ok a la ha (by omega), _, _, rsmall_ok a la ha (by omega), _, _, own_ok a la la1, _, sound_ok a la (by omega), _, rsound_ok a la (by omega), fun _ => ⟨_, _, own_ok a la la1, _, text_ok a la ha (by omega), _, rtext_ok a la ha (by omega),
    fun _ => ⟨fun _ => ⟨fun _ => ⟨_, _, ofInt_ok n n0 n1, _, _, rofInt_ok n n0 n1, _, same_self _ _ (by omega), rfl, rfl⟩, fun h => ?_⟩, fun h => ?_⟩, fun h => ?_⟩, fun h => ?_⟩
  · simp at h
  · simp at h
  · simp at h
  · simp at h
end Go.Proofs.YtflmioakfboanaaDoor.Ev
end
section
set_option linter.unusedVariables false
namespace Go.Proofs.YtflmioakfboanaaDoor.numTexts
open Go.ChangeShapes Go.WideShapes Go.ChangeAt Go.RowKit Go.Joins
open Go.Proofs.YtflmioakfboanaaDoor.Ev (Ty TyAll TabAt Glob tabs closedB openedAll trodAll_below tabAt_ints_of tabAt_ifc_of law_NumTexts)
theorem own : ownKnob Tryd.prog.godebug = none := by kernel_rfl
theorem laidOut : laidOutB Tryd.prog = true := by kernel_rfl
set_option maxRecDepth 100000 in
theorem door_met (os : Os) (args : Array Value) : laidMetH Tryd.prog Rows.numTextsRow.laid ((World.doorLaid Tryd.prog 400 os).forCall (fun _ _ => 0) ⟨#[], args, []⟩).memory :=
  laidMetH_of_parts3 (fuel := 8) (laidMet_of_run' 8 (by kernel_rfl) (by kernel_rfl)) (by kernel_rfl) (by kernel_rfl)
set_option maxRecDepth 100000 in
theorem glob {W : World} (hL : laidMetH Tryd.prog Rows.numTextsRow.laid W) : Glob W := by
  have hM : laidMet Tryd.prog Rows.numTextsRow.laid W := Eq.mp (by kernel_rfl) hL
  intro x hx
  simp only [tabs, List.mem_cons, List.mem_nil_iff, or_false] at hx
  rcases hx with rfl | rfl | rfl
  · exact tabAt_ifc_of (n := "strconv.ErrSyntax") (d := Rows.laid_strconv_ErrSyntax) hM (by kernel_rfl) (List.mem_of_getElem? (i := 4) (by kernel_rfl)) (g := 0) (t := 67) (by kernel_rfl) (by kernel_rfl) Tryd.underlying67
  · exact tabAt_ifc_of (n := "strconv.ErrRange") (d := Rows.laid_strconv_ErrRange) hM (by kernel_rfl) (List.mem_of_getElem? (i := 3) (by kernel_rfl)) (g := 1) (t := 67) (by kernel_rfl) (by kernel_rfl) Tryd.underlying67
  · have h := tabAt_ints_of (n := "internal/strconv.uint64pow10") (k := .u64) (zs := (List.range 20).map fun i => ((10 ^ i : Nat) : Int)) hM (List.mem_of_getElem? (i := 2) (by kernel_rfl)) (g := 2) (t := 138) (by kernel_rfl) (by kernel_rfl) Tryd.underlying138 Tryd.underlying49 (by kernel_rfl) (by kernel_rfl)
    rw [List.map_map] at h
    exact h
set_option maxRecDepth 100000 in
theorem lifted (os : Os) (started : os.Started) (H : Type) (enc : TypeId × Value → H) :
    ReturnsInHanded {} Tryd.checked os 8 .any (fun w args => (Rows.numTextsSpec.pre enc Tryd.prog Tryd.f8 Rows.numTextsRow.domain false w args ∧ laidMetH Tryd.prog Rows.numTextsRow.laid w) ∧ sizedMet enc Tryd.prog Tryd.f8 (OpenSpec.ofChange Rows.numTextsSpec) false w args)
      (Rows.numTextsSpec.post enc Tryd.prog Tryd.f8 false true false false) := by
  refine returnsInHanded_of_change_and (C := Tryd.checked) (X := fun w _ => laidMetH Tryd.prog Rows.numTextsRow.laid w) (fun _ _ _ hh h => h.of_heap hh) own started (by kernel_rfl) Tryd.func8
    (ChangeSpec.witness_shaped (enc := enc) (C := Tryd.checked) (os := os) (X := fun w _ => laidMetH Tryd.prog Rows.numTextsRow.laid w) false (World.doorLaid Tryd.prog 400 os) #[.agg #[.bool false, .slice none 0 0], .int .i64 0] 8 rfl (World.shaped_of_RefB (by kernel_rfl) (by kernel_rfl)) (by kernel_rfl) (by kernel_rfl) (by kernel_rfl) (door_met os _)) ?_
  intro W base args ds gs before hval0 hW hcnd hsz0 hL _
  have hsz : (DataW.weightsEach Tryd.prog (Tryd.f8.params.toList ++ Rows.numTextsSpec.plain.varTypes Tryd.prog) (ds ++ gs)).all (· ≤ reachBytes) = true := hsz0
  have hval : ∀ (j : Nat) t v, Tryd.f8.params[j]? = some t → args[j]? = some v → Value.okWide Tryd.prog W .any base t v := hval0
  have hW' := hW
  obtain ⟨p, q, hA0, hV, rfl, hfz, hnd⟩ := hW
  have hA : DataW.TrodAll enc Tryd.prog W 0 (fun _ => true) true Tryd.f8.params.toList args.toList ds p := hA0
  rw [Tryd.params8] at hA hval hsz
  obtain ⟨rfl, rfl⟩ := trodVars_none hV
  have hA2 := hA
  obtain ⟨v0, vs0, d0, ds0, p0, q0, hargs, rfl, rfl, h0_, r0⟩ := trodAll_cons hA2
  obtain ⟨v1, vs1, d1, ds1, p1, q1, rfl, rfl, rfl, h1_, r1⟩ := trodAll_cons r0
  obtain ⟨rfl, rfl, rfl⟩ := trodAll_nil r1
  obtain ⟨xs, h1, h2, h3⟩ := openedAll (S := [24, 4, 22, 48, 3]) (ts := [24, 3]) (by kernel_rfl) (by decide) (fun j t v ht hv => hval j t v (by simpa using ht) (by simpa using hv)) hA (fun m hm => by simpa using List.all_eq_true.1 hsz m hm)
  refine ((law_NumTexts xs h1).door (glob hL) (by simpa using h2) (fun i x hx => by obtain ⟨v, hv, hr⟩ := h3 i x hx; exact ⟨v, by simpa using hv, hr⟩)).mono fun e W' ⟨he, bel⟩ => ?_
  subst he
  exact ⟨_, rfl, _, _, _, [], _, [], hW', trodAll_mk1 (shut_bool Tryd.underlying4 _), trodAll_below laidOut bel (ts := [24, 3]) (by decide +kernel) hA, rfl, bel.frame _, fun h => by cases h⟩
theorem over : Rows.numTextsRow.holds Tryd.pinned (OpenSpec.ofChange Rows.numTextsSpec) :=
  OpenClaim.holds_of_wide 8 Tryd.f8 rfl rfl rfl rfl rfl rfl rfl ⟨rfl, rfl, rfl, rfl, rfl⟩ rfl rfl rfl rfl rfl (by kernel_rfl) Tryd.func8 (by kernel_rfl)
    (of_decide_eq_true (by kernel_rfl)) (by unfold Func.isWrapper; first | (rw [if_pos (by decide +kernel)]; kernel_rfl) | (rw [if_neg (by decide +kernel)]; exact ⟨rfl, rfl⟩))
    (fun os started H enc _ => lifted os started H enc)
theorem proved : Rows.NumTextsCardSaid :=
  Claim7.holds_tied_plain_at .later [] [.data, .data, .data, .sentinel, .sentinel] true (true, "c882deb6c08a6e4fc319056acccbaaa87bfe25e16c1c8d476e088865a2e3e750") true
    over (fun _ h => by cases h) (by kernel_rfl) (fun _ h => by cases h) numTexts_row_tie rfl ⟨rfl, rfl⟩ (by kernel_rfl) rfl
    (fun f fn hf hfn => by
      obtain rfl : f = 8 := Option.some.inj ((show Tryd.prog.funcNamed "marginalia/marginalialaw01.NumTexts" = some 8 by kernel_rfl).symm.trans hf) |>.symm
      obtain rfl : fn = Tryd.f8 := (Option.some.inj (Tryd.func8.symm.trans hfn)).symm
      exact ⟨by kernel_rfl, fun j t ht => by
        rw [Tryd.params8] at ht
        have hm : t ∈ [24, 3] := by simpa using Array.mem_of_getElem? ht
        have hall : ([24, 3].all fun u => !Tryd.prog.wantsStandIn u) = true := by kernel_rfl
        exact (show Tryd.prog.wantsStandIn t = false by simpa using List.all_eq_true.1 hall t hm)⟩)
    (by kernel_rfl)
end Go.Proofs.YtflmioakfboanaaDoor.numTexts
namespace Go.Proofs.YtflmioakfboanaaDoor
theorem numTexts_holds : Rows.NumTextsCardSaid := numTexts.proved
end Go.Proofs.YtflmioakfboanaaDoor
end
