/-
 Part of a claim: definitions and lemmas that its theorem leans on, packed by wip/tools/pack.py.
-/
import Derived.Test.YtenkkekooimpjaaGreatDoorZS8
import Derived.Laws.Strings
import Derived.Shelf.Strings.Builder1
import Derived.Shelf.Strconv.Itoa3
import Derived.Shelf.Strings.Repeat
import Derived.Shelf.Strconv.AtoiAll
import Derived.Shelf.Strings.Prefix
import Derived.Shelf.Strings.SlTrimAscii
import Derived.Shelf.Strings.Trim
import Derived.Shelf.LaysM
import Derived.Shelf.Spec.DecodeRune
import Derived.Shelf.Unicode.DecodeAny
import Derived.Shelf.Spec.TrailingZeros
import Derived.Lib.AtoiAllCases
import Derived.Lib.SlTrimSet
set_option linter.unusedVariables false
set_option linter.unusedSimpArgs false
section
set_option linter.unusedVariables false
set_option linter.unusedSimpArgs false
namespace Go.Proofs.YtenkkekooimpjaaGreatDoor.Ev
open Go
theorem rsound_loop (s : Bool) (l : List Int) (hl : l.length ≤ 100000000000000) (R : TV → List Ob → Prop) (hR : R (fzB (!l.any (fun x => decide (1000000000 ≤ x)) && (if l.length = 0 then true else rd l (l.length - 1) != 0))) []) :
  ∀ (d j : Nat), j + d = l.length → (l.take j).any (fun x => decide (1000000000 ≤ x)) = false → ref01_Sound_L0 R s (ints .u32 l) j
 | 0, j, hj, h => by
  rw [List.take_of_length_le (by omega)] at h
  rw [h] at hR
  refine ref01_Sound_l0 ?_
  unfold ref01_Sound_R0
  simp only [ints_len, ints_app, ints_snoc, ints_take, ints_drop, ints_set, ints_rep, ints_one, ex_rd, dec_t, dec_f, beq_t, beq_f, bne_t, bne_f, not_t, not_f, List.length_set, List.length_append, List.length_cons, List.length_nil, List.length_take, List.length_drop, List.length_replicate, Int.toNat_natCast, List.nil_append, Bool.not_true, Bool.not_false, Wk_nil, Wk_cons, wk1_same, wk1_f, and_true, true_and, Bool.false_eq_true, Bool.true_eq_false, false_implies, forall_const]
  refine ⟨fun h => by omega, fun _ => ⟨fun h0 => ?_, fun h0 => ?_⟩⟩
  ·rw [if_pos (by omega)] at hR; exact hR
  ·have e : IntKind.wrap .i64 ((l.length : Int) - 1) = ((l.length - 1 : Nat) : Int) := by rw [w64 (by omega) (by omega)]; omega
   rw [if_neg (by omega)] at hR
   simp only [e, Int.toNat_natCast]
   exact ⟨by omega, by omega, hR⟩
 | d + 1, j, hj, h => by
  refine ref01_Sound_l0 ?_
  unfold ref01_Sound_R0
  have e : IntKind.wrap .i64 ((j : Int) + 1) = ((j + 1 : Nat) : Int) := w64 (by omega) (by omega)
  simp only [ints_len, ints_app, ints_snoc, ints_take, ints_drop, ints_set, ints_rep, ints_one, ex_rd, dec_t, dec_f, beq_t, beq_f, bne_t, bne_f, not_t, not_f, List.length_set, List.length_append, List.length_cons, List.length_nil, List.length_take, List.length_drop, List.length_replicate, Int.toNat_natCast, List.nil_append, Bool.not_true, Bool.not_false, Wk_nil, Wk_cons, wk1_same, wk1_f, and_true, true_and, Bool.false_eq_true, Bool.true_eq_false, false_implies, forall_const, e]
  refine ⟨fun _ => ⟨by omega, by omega, fun hx => ?_, fun hx => ?_⟩, fun h => by omega⟩
  ·have : l.any (fun x => decide (1000000000 ≤ x)) = true := by
    rw [List.any_eq_true]
    exact ⟨rd l j, by rw [rd_at l j (by omega)]; exact List.getElem_mem _, by simpa using hx⟩
   rw [this] at hR; exact hR
  ·refine rsound_loop s l hl R hR d (j + 1) (by omega) ?_
   rw [List.take_succ_eq_append_getElem (by omega), List.any_append, h, ← rd_at l j (by omega)]
   simpa using hx
theorem rsound_ok (s : Bool) (l : List Int) (hl : l.length ≤ 100000000000000) : Fn Tryz.prog 75 [fzN s l] [] (fzB (sndB s l)) [] := by
 refine ref01_Sound_fn _ _ ?_
 unfold ref01_Sound_H sndB
 rw [all_lt]
 simp only [ints_len, ints_app, ints_snoc, ints_take, ints_drop, ints_set, ints_rep, ints_one, ex_rd, dec_t, dec_f, beq_t, beq_f, bne_t, bne_f, not_t, not_f, List.length_set, List.length_append, List.length_cons, List.length_nil, List.length_take, List.length_drop, List.length_replicate, Int.toNat_natCast, List.nil_append, Bool.not_true, Bool.not_false, Wk_nil, Wk_cons, wk1_same, wk1_f, and_true, true_and, Bool.false_eq_true, Bool.true_eq_false, false_implies, forall_const]
 refine ⟨fun h => ?_, fun h => ⟨fun h0 => ⟨fun hs => ?_, fun hs => ?_⟩, fun h0 => ?_⟩⟩
 ·simp [show ¬ l.length ≤ 64 by omega]
 ·have : l = [] := List.length_eq_zero_iff.1 (by omega)
  subst this
  simp [hs]
 ·have : l = [] := List.length_eq_zero_iff.1 (by omega)
  subst this
  refine rsound_loop s [] hl _ ⟨?_, rfl⟩ 0 0 rfl rfl
  simp [hs]
 ·refine rsound_loop s l hl _ ⟨?_, rfl⟩ l.length 0 (by omega) (by simp)
  simp [show l.length ≤ 64 by omega, show l.length ≠ 0 by omega]
set_option exponentiation.threshold 1000 in
theorem mk_out (s : Bool) (v : Int) (hv : 0 ≤ v) : (mkB v = true → outE (if s = true then -v else v) = 0 ∧ outS (if s = true then -v else v) = mkS s v ∧ outL (if s = true then -v else v) = mkL v) ∧
  (mkB v = false → outE (if s = true then -v else v) = 6 ∧ outS (if s = true then -v else v) = false ∧ outL (if s = true then -v else v) = []) := by
 have e : ((if s = true then -v else v)).natAbs = v.toNat := by split <;> omega
 have h1 := digs_len (B := 10) (by omega) v.toNat 576
 have h2 := bigL_len (if s = true then -v else v) 64
 rw [e] at h2
 have h3 : (10 : Nat) ^ 576 = 1000000000 ^ 64 := pow9N 64
 rw [h3] at h1
 unfold mkB mkS mkL outE outS outL
 by_cases hc : 576 < (digs 10 v.toNat).length
 ·have : 64 < (bigL (if s = true then -v else v)).length := by omega
  rw [if_pos hc, if_pos hc, if_pos hc, if_pos this, if_pos this, if_pos this]
  exact ⟨(fun h => by cases h), fun _ => ⟨rfl, rfl, rfl⟩⟩
 ·have : ¬ 64 < (bigL (if s = true then -v else v)).length := by omega
  rw [if_neg hc, if_neg hc, if_neg hc, if_neg this, if_neg this, if_neg this]
  refine ⟨fun _ => ⟨rfl, ?_, ?_⟩, (fun h => by cases h)⟩
  ·unfold bigN
   cases s <;> simp <;> omega
  ·unfold bigL; rw [e]
end Go.Proofs.YtenkkekooimpjaaGreatDoor.Ev
end
section
set_option linter.unusedVariables false
set_option linter.unusedSimpArgs false
namespace Go.Proofs.YtenkkekooimpjaaGreatDoor.Ev
open Go Go.Proofs
def bs (s : ByteArray) : List Int := s.data.toList.map fun c => (c.toNat : Int)
def Bytes (l : List Int) : Prop := Lim 256 l
theorem Bytes.nil : Bytes [] := Lim.nil _
theorem bs_bytes (s : ByteArray) : Bytes (bs s) := by
 intro x hx
 simp only [bs, List.mem_map] at hx
 obtain ⟨c, _, rfl⟩ := hx
 have := c.toNat_lt
 omega
theorem u8_back {n : Int} (h0 : 0 ≤ n) (h1 : n < 256) : ((UInt8.ofNat n.toNat).toNat : Int) = n := by
 rw [UInt8.toNat_ofNat']; omega
theorem bs_of {l : List Int} (h : Bytes l) : bs (bytesOf l) = l := by
 simp only [bs, bytesOf, List.map_map]
 conv => rhs; rw [← List.map_id l]
 refine List.map_congr_left fun x hx => ?_
 have := h x hx
 simpa using u8_back this.1 this.2
theorem of_bs (s : ByteArray) : bytesOf (bs s) = s := by
 have : (bs s).map (fun n => UInt8.ofNat n.toNat) = s.data.toList := by
  simp only [bs, List.map_map]
  conv => rhs; rw [← List.map_id s.data.toList]
  refine List.map_congr_left fun c _ => ?_
  simp
 unfold bytesOf
 rw [this]
theorem bytesOf_inj {l m : List Int} (hl : Bytes l) (hm : Bytes m) (h : bytesOf l = bytesOf m) : l = m := by rw [← bs_of hl, h, bs_of hm]
theorem size_of (l : List Int) : (bytesOf l).size = l.length := by
 show (bytesOf l).data.size = _
 simp [bytesOf]
theorem size_bs (s : ByteArray) : s.size = (bs s).length := by
 show s.data.size = _
 simp [bs]
theorem eq_bytes {l m : List Int} (hl : Bytes l) (hm : Bytes m) : ((bytesOf l).toList == (bytesOf m).toList) = decide (l = m) := by
 rw [Bool.eq_iff_iff, beq_iff_eq, decide_eq_true_eq]
 constructor
 ·intro h
  rw [ByteArray.toList_eq, ByteArray.toList_eq] at h
  exact bytesOf_inj hl hm (by
   have := Array.toList_inj.1 h
   cases hx : bytesOf l; cases hy : bytesOf m
   rw [hx, hy] at this
   simpa using this)
 ·rintro rfl; rfl
theorem ex_byte {l : List Int} (hl : Bytes l) {i : Nat} {Q : Int → Prop} : (∃ c : UInt8, (ByteArray.data (bytesOf l))[i]? = some c ∧ Q ((c.toNat : Nat) : Int)) ↔ (i < l.length ∧ Q (rd l i)) := by
 have key : (ByteArray.data (bytesOf l))[i]? = (l[i]?).map fun n => UInt8.ofNat n.toNat := by simp [bytesOf]
 constructor
 ·rintro ⟨c, h, hq⟩
  rw [key, Option.map_eq_some_iff] at h
  obtain ⟨n, hn, rfl⟩ := h
  have := hl n (List.mem_of_getElem? hn)
  rw [u8_back this.1 this.2] at hq
  exact ⟨(List.getElem?_eq_some_iff.1 hn).1, by rw [rd_some hn]; exact hq⟩
 ·rintro ⟨h, hq⟩
  have := hl.rd (by omega) i
  exact ⟨UInt8.ofNat (rd l i).toNat, by rw [key, some_rd h]; rfl, by rw [u8_back this.1 this.2]; exact hq⟩
theorem map_bs (s : ByteArray) : List.map (fun c : UInt8 => [FV.int .u8 ((c.toNat : Nat) : Int)]) (Array.toList (ByteArray.data s)) = ints .u8 (bs s) := by
 simp [ints, bs]
end Go.Proofs.YtenkkekooimpjaaGreatDoor.Ev
end
section
set_option linter.unusedVariables false
set_option linter.unusedSimpArgs false
namespace Go.Proofs.YtenkkekooimpjaaGreatDoor.Ev
open Go
abbrev p0 : TV := .one (.ptr 0 0 0 0)
end Go.Proofs.YtenkkekooimpjaaGreatDoor.Ev
end
section
set_option linter.unusedVariables false
namespace Go.Proofs.YtenkkekooimpjaaGreatDoor.Ev
open Go Go.RowKit
theorem RepH.below {P : Program} {ext : Nat → Prop} {w0 : World} {own0 : Own0} {locs : Locs} {w w' : World} (H : RepH P ext w0 own0 locs [] w) (hb : Below w.heap.size w w') : RepH P ext w0 own0 locs [] w' := by
 have hown : ∀ b, ¬ ownB locs [] b := by rintro b ⟨o, l, d, ob, h1, _⟩; simp at h1
 refine ⟨H.len, fun o ob ho => by simp at ho, fun o o' l l' ob ob' d d' _ ho => by simp at ho, fun b _ hb => hown b hb, fun b hb' => Nat.lt_of_lt_of_le (H.extlt b hb') hb.size, fun b _ hb => absurd hb (hown b), ?_, H.base, H.pins, fun o b h => Nat.lt_of_lt_of_le (H.ownlt o b h) hb.size⟩
 exact ⟨Nat.le_trans H.since.size hb.size, fun b hlt hn => (hb.block b (Nat.lt_of_lt_of_le hlt H.since.size)).trans (H.since.block b hlt hn), hb.os.trans H.since.os, hb.tape.trans H.since.tape, hb.output.trans H.since.output⟩
def bareV : FV → Option Value
 | .int k n => some (.int k n)
 | .bool b => some (.bool b)
 | .str s => some (.string s)
 | _ => none
theorem bareV_ok {w : World} {B : Nat → Prop} {x : FV} {v u : Value} (h : bareV x = some v) (hr : RF w B x u) : u = v := by
 cases x <;> cases h <;> cases hr <;> rfl
theorem bareV_rep {w : World} {B : Nat → Prop} {x : FV} {v : Value} (h : bareV x = some v) : RF w B x v := by
 cases x <;> cases h <;> constructor
theorem args_bare {w : World} {B : Nat → Prop} {locs : Nat → Option Loc} : ∀ (xs : List FV) (vs vals : List Value), xs.mapM bareV = some vs → vals.length = xs.length →
  (∀ (i : Nat) (x : TV), (xs.map fun x => TV.one (.fz x))[i]? = some x → ∃ v, vals[i]? = some v ∧ RT w B locs x v) → vals = vs
 | [], vs, vals, h, hl, _ => by
  simp at h hl
  rw [hl, ← h]
 | x :: xs, vs, [], h, hl, _ => by simp at hl
 | x :: xs, vs, v :: vals, h, hl, hr => by
  simp only [List.mapM_cons, Option.bind_eq_bind, Option.bind_eq_some_iff, Option.pure_def, Option.some.injEq] at h
  obtain ⟨u, hu, us, hus, rfl⟩ := h
  obtain ⟨v', hv', hr'⟩ := hr 0 _ rfl
  cases hv'
  have h1 := bareV_ok hu hr'
  have h2 := args_bare xs us vals hus (by simpa using hl) (fun i y hy => hr (i + 1) y (by simpa using hy))
  rw [h1, h2]
theorem Fn.of_below {P : Program} {f : FuncId} (xs : List FV) {vs : List Value} {r : FV} {v : Value} (hx : xs.mapM bareV = some vs) (hr : bareV r = some v)
  (hc : ∀ w, Glob w → Calls P f vs.toArray w fun e w' => e = .returned v ∧ Below w.heap.size w w') : Fn P f (xs.map fun x => .one (.fz x)) [] (.one (.fz r)) [] := by
 intro ext w locs vals H hsz hrep
 have e : vals = vs.toArray := by
  have := args_bare xs vs vals.toList hx (by simpa using hsz) (fun i x h => by obtain ⟨v, h1, h2⟩ := hrep i x h; exact ⟨v, by simpa using h1, h2⟩)
  rw [← this]
 subst e
 refine (hc w H.glob).mono ?_
 rintro e w' ⟨rfl, hb⟩
 exact ⟨v, locs, rfl, H.below hb, bareV_rep hr⟩
end Go.Proofs.YtenkkekooimpjaaGreatDoor.Ev
end
section
namespace Go.Proofs
open Go.Shelf
def Tryz.lays161_ren : Go.Shelf.Ren := ⟨fun | 161 => 162 | 231 => 188 | 227 => 190 | 233 => 191 | 235 => 193 | 228 => 213 | 197 => 87 | 151 => 214 | 260 => 115 | 152 => 226 | 137 => 131 | 119 => 100 | 224 => 230 | 225 => 231 | 217 => 156 | 266 => 182 | n => n, fun | 9 => 9 | 4 => 4 | 3 => 3 | 5 => 5 | 117 => 229 | 116 => 228 | 0 => 0 | 124 => 232 | 105 => 102 | 21 => 21 | 119 => 175 | 46 => 172 | 139 => 178 | 138 => 177 | n => n, fun | 3 => 2 | 4 => 3 | n => n⟩
theorem Tryz.lays161 : Go.Proofs.Lays.n161 Tryz.prog Tryz.lays161_ren := {
 mixed := by kernel_rfl
 f119 := Tryz.func100.trans (congrArg some (by kernel_rfl))
 f137 := Tryz.func131.trans (congrArg some (by kernel_rfl))
 f151 := Tryz.func214.trans (congrArg some (by kernel_rfl))
 f152 := Tryz.func226.trans (congrArg some (by kernel_rfl))
 f161 := Tryz.func162.trans (congrArg some (by kernel_rfl))
 f197 := Tryz.func87.trans (congrArg some (by kernel_rfl))
 f217 := Tryz.func156.trans (congrArg some (by kernel_rfl))
 f224 := Tryz.func230.trans (congrArg some (by kernel_rfl))
 f225 := Tryz.func231.trans (congrArg some (by kernel_rfl))
 f227 := Tryz.func190.trans (congrArg some (by kernel_rfl))
 f228 := Tryz.func213.trans (congrArg some (by kernel_rfl))
 f231 := Tryz.func188.trans (congrArg some (by kernel_rfl))
 f233 := Tryz.func191.trans (congrArg some (by kernel_rfl))
 f235 := Tryz.func193.trans (congrArg some (by kernel_rfl))
 f260 := Tryz.func115.trans (congrArg some (by kernel_rfl))
 f266 := Tryz.func182.trans (congrArg some (by kernel_rfl))
 t0 := Tryz.underlying0
 a0 := Tryz.isAgg0
 z0 := Tryz.sizeOf0
 v0 := Tryz.zeroValue0
 t3 := Tryz.underlying3
 a3 := Tryz.isAgg3
 z3 := Tryz.sizeOf3
 v3 := Tryz.zeroValue3
 t4 := Tryz.underlying4
 a4 := Tryz.isAgg4
 z4 := Tryz.sizeOf4
 v4 := Tryz.zeroValue4
 t5 := Tryz.underlying5
 a5 := Tryz.isAgg5
 z5 := Tryz.sizeOf5
 v5 := Tryz.zeroValue5
 t9 := Tryz.underlying9
 a9 := Tryz.isAgg9
 z9 := Tryz.sizeOf9
 v9 := Tryz.zeroValue9
 t21 := Tryz.underlying21
 a21 := Tryz.isAgg21
 z21 := Tryz.sizeOf21
 v21 := Tryz.zeroValue21
 t46 := Tryz.underlying172
 a46 := Tryz.isAgg172
 z46 := Tryz.sizeOf172
 v46 := Tryz.zeroValue172
 t105 := Tryz.underlying102
 a105 := Tryz.isAgg102
 z105 := Tryz.sizeOf102
 v105 := Tryz.zeroValue102
 t116 := Tryz.underlying228
 a116 := Tryz.isAgg228
 z116 := Tryz.sizeOf228
 t117 := Tryz.underlying229
 a117 := Tryz.isAgg229
 z117 := Tryz.sizeOf229
 v117 := Tryz.zeroValue229
 t119 := Tryz.underlying175
 a119 := Tryz.isAgg175
 z119 := Tryz.sizeOf175
 t124 := Tryz.underlying232
 a124 := Tryz.isAgg232
 z124 := Tryz.sizeOf232
 v124 := Tryz.zeroValue232
 t138 := Tryz.underlying177
 a138 := Tryz.isAgg177
 z138 := Tryz.sizeOf177
 v138 := Tryz.zeroValue177
 t139 := Tryz.underlying178
 a139 := Tryz.isAgg178
 z139 := Tryz.sizeOf178
 v139 := Tryz.zeroValue178
 g3 := by kernel_rfl
 g4 := by kernel_rfl }
open Go.RowKit in
theorem Tryz.strings_TrimLeft_one (s : ByteArray) (c : UInt8) (hc : c.toNat < 128) (w : World) :
  Calls Tryz.prog 162 #[.string s, .string ⟨#[c]⟩] w fun e w' => e = .returned (.string ⟨(Lib.trimLeftB s.data.toList c).toArray⟩) ∧ w' = w := Any.strings_TrimLeft_one Tryz.lays161 s c hc w
def Tryz.lays160_ren : Go.Shelf.Ren := ⟨fun | 160 => 161 | 232 => 189 | 231 => 188 | 227 => 190 | 234 => 192 | 233 => 191 | 236 => 194 | 235 => 193 | 228 => 213 | 271 => 215 | 151 => 214 | 197 => 87 | 120 => 227 | 152 => 226 | 260 => 115 | 137 => 131 | 119 => 100 | 224 => 230 | 225 => 231 | 217 => 156 | 266 => 182 | n => n, fun | 9 => 9 | 4 => 4 | 3 => 3 | 5 => 5 | 117 => 229 | 116 => 228 | 0 => 0 | 124 => 232 | 21 => 21 | 105 => 102 | 46 => 172 | 119 => 175 | 139 => 178 | 138 => 177 | n => n, fun | 3 => 2 | 4 => 3 | n => n⟩
theorem Tryz.lays160 : Go.Proofs.Lays.n160 Tryz.prog Tryz.lays160_ren := {
 mixed := by kernel_rfl
 f119 := Tryz.func100.trans (congrArg some (by kernel_rfl))
 f120 := Tryz.func227.trans (congrArg some (by kernel_rfl))
 f137 := Tryz.func131.trans (congrArg some (by kernel_rfl))
 f151 := Tryz.func214.trans (congrArg some (by kernel_rfl))
 f152 := Tryz.func226.trans (congrArg some (by kernel_rfl))
 f160 := Tryz.func161.trans (congrArg some (by kernel_rfl))
 f197 := Tryz.func87.trans (congrArg some (by kernel_rfl))
 f217 := Tryz.func156.trans (congrArg some (by kernel_rfl))
 f224 := Tryz.func230.trans (congrArg some (by kernel_rfl))
 f225 := Tryz.func231.trans (congrArg some (by kernel_rfl))
 f227 := Tryz.func190.trans (congrArg some (by kernel_rfl))
 f228 := Tryz.func213.trans (congrArg some (by kernel_rfl))
 f231 := Tryz.func188.trans (congrArg some (by kernel_rfl))
 f232 := Tryz.func189.trans (congrArg some (by kernel_rfl))
 f233 := Tryz.func191.trans (congrArg some (by kernel_rfl))
 f234 := Tryz.func192.trans (congrArg some (by kernel_rfl))
 f235 := Tryz.func193.trans (congrArg some (by kernel_rfl))
 f236 := Tryz.func194.trans (congrArg some (by kernel_rfl))
 f260 := Tryz.func115.trans (congrArg some (by kernel_rfl))
 f266 := Tryz.func182.trans (congrArg some (by kernel_rfl))
 f271 := Tryz.func215.trans (congrArg some (by kernel_rfl))
 t0 := Tryz.underlying0
 a0 := Tryz.isAgg0
 z0 := Tryz.sizeOf0
 v0 := Tryz.zeroValue0
 t3 := Tryz.underlying3
 a3 := Tryz.isAgg3
 z3 := Tryz.sizeOf3
 v3 := Tryz.zeroValue3
 t4 := Tryz.underlying4
 a4 := Tryz.isAgg4
 z4 := Tryz.sizeOf4
 v4 := Tryz.zeroValue4
 t5 := Tryz.underlying5
 a5 := Tryz.isAgg5
 z5 := Tryz.sizeOf5
 v5 := Tryz.zeroValue5
 t9 := Tryz.underlying9
 a9 := Tryz.isAgg9
 z9 := Tryz.sizeOf9
 v9 := Tryz.zeroValue9
 t21 := Tryz.underlying21
 a21 := Tryz.isAgg21
 z21 := Tryz.sizeOf21
 v21 := Tryz.zeroValue21
 t46 := Tryz.underlying172
 a46 := Tryz.isAgg172
 z46 := Tryz.sizeOf172
 v46 := Tryz.zeroValue172
 t105 := Tryz.underlying102
 a105 := Tryz.isAgg102
 z105 := Tryz.sizeOf102
 v105 := Tryz.zeroValue102
 t116 := Tryz.underlying228
 a116 := Tryz.isAgg228
 z116 := Tryz.sizeOf228
 t117 := Tryz.underlying229
 a117 := Tryz.isAgg229
 z117 := Tryz.sizeOf229
 v117 := Tryz.zeroValue229
 t119 := Tryz.underlying175
 a119 := Tryz.isAgg175
 z119 := Tryz.sizeOf175
 t124 := Tryz.underlying232
 a124 := Tryz.isAgg232
 z124 := Tryz.sizeOf232
 v124 := Tryz.zeroValue232
 t138 := Tryz.underlying177
 a138 := Tryz.isAgg177
 z138 := Tryz.sizeOf177
 v138 := Tryz.zeroValue177
 t139 := Tryz.underlying178
 a139 := Tryz.isAgg178
 z139 := Tryz.sizeOf178
 v139 := Tryz.zeroValue178
 g3 := by kernel_rfl
 g4 := by kernel_rfl }
def Tryz.lays137_ren : Go.Shelf.Ren := ⟨fun | 137 => 131 | 217 => 156 | 266 => 182 | n => n, fun | 9 => 9 | 5 => 5 | 3 => 3 | n => n, fun | n => n⟩
theorem Tryz.lays137 : Go.Proofs.Lays.n137 Tryz.prog Tryz.lays137_ren := {
 mixed := by kernel_rfl
 f137 := Tryz.func131.trans (congrArg some (by kernel_rfl))
 f217 := Tryz.func156.trans (congrArg some (by kernel_rfl))
 f266 := Tryz.func182.trans (congrArg some (by kernel_rfl))
 t3 := Tryz.underlying3
 a3 := Tryz.isAgg3
 z3 := Tryz.sizeOf3
 v3 := Tryz.zeroValue3
 t5 := Tryz.underlying5
 a5 := Tryz.isAgg5
 z5 := Tryz.sizeOf5
 v5 := Tryz.zeroValue5
 t9 := Tryz.underlying9
 a9 := Tryz.isAgg9
 z9 := Tryz.sizeOf9
 v9 := Tryz.zeroValue9 }
open Go.RowKit in
theorem Tryz.strings_IndexByte (s : ByteArray) (c : Int) (w : World) :
  Calls Tryz.prog 131 #[.string s, .int .u8 c] w fun e w' => e = .returned (.int .i64 (Lib.indexByte s.data.toList c.toNat.toUInt8)) ∧ w' = w := Any.strings_IndexByte Tryz.lays137 s c w
def Tryz.laysC172_ren : Go.Shelf.Ren := ⟨fun | 172 => 163 | 244 => 195 | 245 => 196 | 247 => 216 | 279 => 217 | 280 => 218 | 281 => 219 | 282 => 220 | 287 => 212 | 316 => 228 | 171 => 117 | 205 => 229 | 321 => 224 | 322 => 225 | 243 => 144 | 246 => 143 | 283 => 167 | 284 => 168 | 285 => 169 | 286 => 170 | 129 => 199 | 317 => 198 | 318 => 200 | 319 => 201 | 320 => 202 | 337 => 221 | 338 => 222 | n => n, fun | 9 => 9 | 3 => 3 | 75 => 131 | 76 => 133 | 4 => 4 | 5 => 5 | 167 => 244 | 37 => 22 | 0 => 0 | 85 => 245 | 2 => 2 | 168 => 247 | 53 => 199 | 175 => 224 | 46 => 172 | 210 => 255 | 127 => 136 | 145 => 262 | 143 => 260 | 21 => 21 | 171 => 210 | 173 => 213 | 212 => 235 | 51 => 81 | 20 => 20 | 213 => 236 | 232 => 257 | 233 => 258 | 80 => 90 | n => n, fun | 15 => 6 | 16 => 7 | 17 => 4 | 18 => 8 | 19 => 9 | n => n⟩
theorem Tryz.laysC172 : Go.Proofs.LaysC.n172 Tryz.prog Tryz.laysC172_ren := {
 mixed := by kernel_rfl
 f129 := Tryz.func199.trans (congrArg some (by kernel_rfl))
 f171 := Tryz.func117.trans (congrArg some (by kernel_rfl))
 f172 := Tryz.func163.trans (congrArg some (by kernel_rfl))
 f205 := Tryz.func229.trans (congrArg some (by kernel_rfl))
 f243 := Tryz.func144.trans (congrArg some (by kernel_rfl))
 f244 := Tryz.func195.trans (congrArg some (by kernel_rfl))
 f245 := Tryz.func196.trans (congrArg some (by kernel_rfl))
 f246 := Tryz.func143.trans (congrArg some (by kernel_rfl))
 f247 := Tryz.func216.trans (congrArg some (by kernel_rfl))
 f279 := Tryz.func217.trans (congrArg some (by kernel_rfl))
 f280 := Tryz.func218.trans (congrArg some (by kernel_rfl))
 f281 := Tryz.func219.trans (congrArg some (by kernel_rfl))
 f282 := Tryz.func220.trans (congrArg some (by kernel_rfl))
 f283 := Tryz.func167.trans (congrArg some (by kernel_rfl))
 f284 := Tryz.func168.trans (congrArg some (by kernel_rfl))
 f285 := Tryz.func169.trans (congrArg some (by kernel_rfl))
 f286 := Tryz.func170.trans (congrArg some (by kernel_rfl))
 f287 := Tryz.func212.trans (congrArg some (by kernel_rfl))
 f316 := Tryz.func228.trans (congrArg some (by kernel_rfl))
 f317 := Tryz.func198.trans (congrArg some (by kernel_rfl))
 f318 := Tryz.func200.trans (congrArg some (by kernel_rfl))
 f319 := Tryz.func201.trans (congrArg some (by kernel_rfl))
 f320 := Tryz.func202.trans (congrArg some (by kernel_rfl))
 f321 := Tryz.func224.trans (congrArg some (by kernel_rfl))
 f322 := Tryz.func225.trans (congrArg some (by kernel_rfl))
 f337 := Tryz.func221.trans (congrArg some (by kernel_rfl))
 f338 := Tryz.func222.trans (congrArg some (by kernel_rfl))
 t0 := Tryz.underlying0
 a0 := Tryz.isAgg0
 z0 := Tryz.sizeOf0
 v0 := Tryz.zeroValue0
 t2 := Tryz.underlying2
 a2 := Tryz.isAgg2
 z2 := Tryz.sizeOf2
 v2 := Tryz.zeroValue2
 t3 := Tryz.underlying3
 a3 := Tryz.isAgg3
 z3 := Tryz.sizeOf3
 v3 := Tryz.zeroValue3
 t4 := Tryz.underlying4
 a4 := Tryz.isAgg4
 z4 := Tryz.sizeOf4
 v4 := Tryz.zeroValue4
 t5 := Tryz.underlying5
 a5 := Tryz.isAgg5
 z5 := Tryz.sizeOf5
 v5 := Tryz.zeroValue5
 t9 := Tryz.underlying9
 a9 := Tryz.isAgg9
 z9 := Tryz.sizeOf9
 v9 := Tryz.zeroValue9
 t20 := Tryz.underlying20
 a20 := Tryz.isAgg20
 z20 := Tryz.sizeOf20
 v20 := Tryz.zeroValue20
 t21 := Tryz.underlying21
 a21 := Tryz.isAgg21
 z21 := Tryz.sizeOf21
 v21 := Tryz.zeroValue21
 t37 := Tryz.underlying22
 a37 := Tryz.isAgg22
 z37 := Tryz.sizeOf22
 v37 := Tryz.zeroValue22
 t46 := Tryz.underlying172
 a46 := Tryz.isAgg172
 z46 := Tryz.sizeOf172
 v46 := Tryz.zeroValue172
 t51 := Tryz.underlying81
 a51 := Tryz.isAgg81
 z51 := Tryz.sizeOf81
 v51 := Tryz.zeroValue81
 t53 := Tryz.underlying199
 a53 := Tryz.isAgg199
 z53 := Tryz.sizeOf199
 v53 := Tryz.zeroValue199
 t75 := Tryz.underlying131
 a75 := Tryz.isAgg131
 z75 := Tryz.sizeOf131
 v75 := Tryz.zeroValue131
 t76 := Tryz.underlying133
 a76 := Tryz.isAgg133
 z76 := Tryz.sizeOf133
 v76 := Tryz.zeroValue133
 t85 := Tryz.underlying245
 a85 := Tryz.isAgg245
 z85 := Tryz.sizeOf245
 v85 := Tryz.zeroValue245
 t127 := Tryz.underlying136
 a127 := Tryz.isAgg136
 z127 := Tryz.sizeOf136
 v127 := Tryz.zeroValue136
 t143 := Tryz.underlying260
 a143 := Tryz.isAgg260
 z143 := Tryz.sizeOf260
 v143 := Tryz.zeroValue260
 t145 := Tryz.underlying262
 a145 := Tryz.isAgg262
 z145 := Tryz.sizeOf262
 v145 := Tryz.zeroValue262
 t167 := Tryz.underlying244
 a167 := Tryz.isAgg244
 z167 := Tryz.sizeOf244
 v167 := Tryz.zeroValue244
 t168 := Tryz.underlying247
 a168 := Tryz.isAgg247
 z168 := Tryz.sizeOf247
 v168 := Tryz.zeroValue247
 t171 := Tryz.underlying210
 a171 := Tryz.isAgg210
 z171 := Tryz.sizeOf210
 v171 := Tryz.zeroValue210
 t173 := Tryz.underlying213
 a173 := Tryz.isAgg213
 z173 := Tryz.sizeOf213
 v173 := Tryz.zeroValue213
 t175 := Tryz.underlying224
 a175 := Tryz.isAgg224
 z175 := Tryz.sizeOf224
 v175 := Tryz.zeroValue224
 t210 := Tryz.underlying255
 a210 := Tryz.isAgg255
 z210 := Tryz.sizeOf255
 v210 := Tryz.zeroValue255
 t212 := Tryz.underlying235
 a212 := Tryz.isAgg235
 z212 := Tryz.sizeOf235
 v212 := Tryz.zeroValue235
 t213 := Tryz.underlying236
 a213 := Tryz.isAgg236
 z213 := Tryz.sizeOf236
 t232 := Tryz.underlying257
 a232 := Tryz.isAgg257
 z232 := Tryz.sizeOf257
 v232 := Tryz.zeroValue257
 t233 := Tryz.underlying258
 a233 := Tryz.isAgg258
 z233 := Tryz.sizeOf258
 v233 := Tryz.zeroValue258
 g15 := by kernel_rfl
 g16 := by kernel_rfl
 g17 := by kernel_rfl
 g18 := by kernel_rfl
 g19 := by kernel_rfl
 t80 := Tryz.underlying90
 a80 := Tryz.isAgg90
 z80 := Tryz.sizeOf90
 v80 := Tryz.zeroValue90
 i0 := by kernel_rfl
 i2 := by kernel_rfl
 i3 := by kernel_rfl
 i4 := by kernel_rfl
 i5 := by kernel_rfl
 i9 := by kernel_rfl
 i20 := by kernel_rfl
 i21 := by kernel_rfl
 i37 := by kernel_rfl
 i46 := by kernel_rfl
 i51 := by kernel_rfl
 i53 := by kernel_rfl
 i75 := by kernel_rfl
 i76 := by kernel_rfl
 i80 := by kernel_rfl
 i85 := by kernel_rfl
 i127 := by kernel_rfl
 i143 := by kernel_rfl
 i145 := by kernel_rfl
 i167 := by kernel_rfl
 i168 := by kernel_rfl
 i171 := by kernel_rfl
 i173 := by kernel_rfl
 i175 := by kernel_rfl
 i210 := by kernel_rfl
 i212 := by kernel_rfl
 i232 := by kernel_rfl
 i233 := by kernel_rfl
 m15 := by kernel_rfl
 m16 := by kernel_rfl
 m17 := by kernel_rfl
 m18 := by kernel_rfl
 m19 := by kernel_rfl
 c0 := by kernel_rfl
 c2 := by kernel_rfl
 c3 := by kernel_rfl
 c4 := by kernel_rfl
 c5 := by kernel_rfl
 c9 := by kernel_rfl
 c20 := by kernel_rfl
 c21 := by kernel_rfl
 c37 := by kernel_rfl
 c46 := by kernel_rfl
 c51 := by kernel_rfl
 c53 := by kernel_rfl
 c75 := by kernel_rfl
 c76 := by kernel_rfl
 c80 := by kernel_rfl
 c85 := by kernel_rfl
 c127 := by kernel_rfl
 c143 := by kernel_rfl
 c145 := by kernel_rfl
 c167 := by kernel_rfl
 c168 := by kernel_rfl
 c171 := by kernel_rfl
 c173 := by kernel_rfl
 c175 := by kernel_rfl
 c210 := by kernel_rfl
 c212 := by kernel_rfl
 c213 := by kernel_rfl
 c232 := by kernel_rfl
 c233 := by kernel_rfl }
open Go.RowKit in
theorem Tryz.strconv_Atoi_ok (s : ByteArray) (hmax : s.size ≤ 9223372036854775806) (v : Int) (h : Lib.atoiAll s.data.toList = .ok v) (w : World) :
  Calls Tryz.prog 163 #[.string s] w fun e w' => e = .returned (.tuple #[.int .i64 v, .nilIface]) ∧ (w' = w ∨ ∃ t, w' = Lib.bytesWorld w 5 t) := Any.strconv_Atoi_ok Tryz.laysC172 s hmax v h w
open Go.RowKit in
theorem Tryz.strconv_Atoi_syntax (s : ByteArray) (hlim : s.size ≤ 281474976710656) (h : Lib.atoiAll s.data.toList = Lib.atoiAll []) (ev : Value) (w : World) (hv : w.cell? ⟨6, 0, none⟩ = some ev) (hev : ev = .nilIface ∨ ∃ te pe, ev = .iface te pe) :
  Calls Tryz.prog 163 #[.string s] w fun e w' => ∃ N, e = .returned (.tuple #[.int .i64 (0), .iface 247 (.pointer (some ⟨N, 0, none⟩))]) ∧ w.heap.size ≤ N ∧ w'.heap[N]? = some (.cells #[.string ⟨#[65, 116, 111, 105]⟩, .string s, ev] 255 (0, 0)) ∧ Below w.heap.size w w' := Any.strconv_Atoi_syntax Tryz.laysC172 s hlim h ev w hv hev
open Go.RowKit in
theorem Tryz.strconv_Atoi_range (s : ByteArray) (hlim : s.size ≤ 281474976710656) (h : Lib.atoiAll s.data.toList = .range) (ev : Value) (w : World) (hv : w.cell? ⟨7, 0, none⟩ = some ev) (hev : ev = .nilIface ∨ ∃ te pe, ev = .iface te pe) :
  Calls Tryz.prog 163 #[.string s] w fun e w' => ∃ N, e = .returned (.tuple #[.int .i64 (Lib.atoiSat s.data.toList), .iface 247 (.pointer (some ⟨N, 0, none⟩))]) ∧ w.heap.size ≤ N ∧ w'.heap[N]? = some (.cells #[.string ⟨#[65, 116, 111, 105]⟩, .string s, ev] 255 (0, 0)) ∧ Below w.heap.size w w' := Any.strconv_Atoi_range Tryz.laysC172 s hlim h ev w hv hev
def Tryz.lays99_ren : Go.Shelf.Ren := ⟨fun | 99 => 138 | 206 => 165 | n => n, fun | 9 => 9 | 4 => 4 | 3 => 3 | n => n, fun | n => n⟩
theorem Tryz.lays99 : Go.Proofs.Lays.n99 Tryz.prog Tryz.lays99_ren := {
 mixed := by kernel_rfl
 f99 := Tryz.func138.trans (congrArg some (by kernel_rfl))
 f206 := Tryz.func165.trans (congrArg some (by kernel_rfl))
 t3 := Tryz.underlying3
 a3 := Tryz.isAgg3
 z3 := Tryz.sizeOf3
 v3 := Tryz.zeroValue3
 t4 := Tryz.underlying4
 a4 := Tryz.isAgg4
 z4 := Tryz.sizeOf4
 v4 := Tryz.zeroValue4
 t9 := Tryz.underlying9
 a9 := Tryz.isAgg9
 z9 := Tryz.sizeOf9
 v9 := Tryz.zeroValue9 }
open Go.RowKit Go.Lib in
theorem Tryz.strings_HasPrefix (s p : ByteArray) (w : World) :
  Calls Tryz.prog 138 #[.string s, .string p] w fun e w' => e = .returned (.bool (Lib.hasPrefix s.data.toList p.data.toList)) ∧ w' = w := Any.strings_HasPrefix Tryz.lays99 s p w
def Tryz.lays101_ren : Go.Shelf.Ren := ⟨fun | 101 => 160 | 208 => 187 | 206 => 165 | n => n, fun | 9 => 9 | 4 => 4 | 3 => 3 | n => n, fun | n => n⟩
theorem Tryz.lays101 : Go.Proofs.Lays.n101 Tryz.prog Tryz.lays101_ren := {
 mixed := by kernel_rfl
 f101 := Tryz.func160.trans (congrArg some (by kernel_rfl))
 f206 := Tryz.func165.trans (congrArg some (by kernel_rfl))
 f208 := Tryz.func187.trans (congrArg some (by kernel_rfl))
 t3 := Tryz.underlying3
 a3 := Tryz.isAgg3
 z3 := Tryz.sizeOf3
 v3 := Tryz.zeroValue3
 t4 := Tryz.underlying4
 a4 := Tryz.isAgg4
 z4 := Tryz.sizeOf4
 v4 := Tryz.zeroValue4
 t9 := Tryz.underlying9
 a9 := Tryz.isAgg9
 z9 := Tryz.sizeOf9
 v9 := Tryz.zeroValue9 }
open Go.RowKit Go.Lib in
theorem Tryz.strings_TrimPrefix (s p : ByteArray) (w : World) :
  Calls Tryz.prog 160 #[.string s, .string p] w fun e w' => e = .returned (.string ⟨(Lib.trimPrefix s.data.toList p.data.toList).toArray⟩) ∧ w' = w := Any.strings_TrimPrefix Tryz.lays101 s p w
def Tryz.lays197_ren : Go.Shelf.Ren := ⟨fun | 197 => 87 | 260 => 115 | n => n, fun | 9 => 9 | 21 => 21 | 3 => 3 | 4 => 4 | 5 => 5 | 105 => 102 | 119 => 175 | 0 => 0 | 46 => 172 | 139 => 178 | 138 => 177 | n => n, fun | 3 => 2 | 4 => 3 | n => n⟩
theorem Tryz.lays197 : Go.Proofs.Lays.n197 Tryz.prog Tryz.lays197_ren := {
 mixed := by kernel_rfl
 f197 := Tryz.func87.trans (congrArg some (by kernel_rfl))
 f260 := Tryz.func115.trans (congrArg some (by kernel_rfl))
 t0 := Tryz.underlying0
 a0 := Tryz.isAgg0
 z0 := Tryz.sizeOf0
 v0 := Tryz.zeroValue0
 t3 := Tryz.underlying3
 a3 := Tryz.isAgg3
 z3 := Tryz.sizeOf3
 v3 := Tryz.zeroValue3
 t4 := Tryz.underlying4
 a4 := Tryz.isAgg4
 z4 := Tryz.sizeOf4
 v4 := Tryz.zeroValue4
 t5 := Tryz.underlying5
 a5 := Tryz.isAgg5
 z5 := Tryz.sizeOf5
 v5 := Tryz.zeroValue5
 t9 := Tryz.underlying9
 a9 := Tryz.isAgg9
 z9 := Tryz.sizeOf9
 v9 := Tryz.zeroValue9
 t21 := Tryz.underlying21
 a21 := Tryz.isAgg21
 z21 := Tryz.sizeOf21
 v21 := Tryz.zeroValue21
 t46 := Tryz.underlying172
 a46 := Tryz.isAgg172
 z46 := Tryz.sizeOf172
 v46 := Tryz.zeroValue172
 t105 := Tryz.underlying102
 a105 := Tryz.isAgg102
 z105 := Tryz.sizeOf102
 v105 := Tryz.zeroValue102
 t119 := Tryz.underlying175
 a119 := Tryz.isAgg175
 z119 := Tryz.sizeOf175
 t138 := Tryz.underlying177
 a138 := Tryz.isAgg177
 z138 := Tryz.sizeOf177
 v138 := Tryz.zeroValue177
 t139 := Tryz.underlying178
 a139 := Tryz.isAgg178
 z139 := Tryz.sizeOf178
 v139 := Tryz.zeroValue178
 g3 := by kernel_rfl
 g4 := by kernel_rfl }
open Go.RowKit Go.Lib in
theorem Tryz.utf8_DecodeRuneInString (s : ByteArray) (w : World) (hT : Lib.Utf8Tabs 2 3 w) :
  Calls Tryz.prog 87 #[.string s] w fun e w' => e = .returned (.tuple #[.int .i32 (Lib.decodeGo s).1, .int .i64 (Lib.decodeGo s).2]) ∧ Below w.heap.size w w' := Any.utf8_DecodeRuneInString Tryz.lays197 s w hT
def Tryz.lays7n32_ren : Go.Shelf.Ren := ⟨fun | 32 => 61 | 49 => 99 | n => n, fun | 30 => 22 | 21 => 21 | 3 => 3 | 0 => 0 | 5 => 5 | 4 => 4 | 33 => 102 | 66 => 175 | 25 => 172 | 69 => 178 | 68 => 177 | n => n, fun | 2 => 2 | 3 => 3 | n => n⟩
theorem Tryz.lays7n32 : Go.Proofs.Lays7.n32 Tryz.prog Tryz.lays7n32_ren := {
 mixed := by kernel_rfl
 f32 := Tryz.func61.trans (congrArg some (by kernel_rfl))
 f49 := Tryz.func99.trans (congrArg some (by kernel_rfl))
 t0 := Tryz.underlying0
 a0 := Tryz.isAgg0
 z0 := Tryz.sizeOf0
 v0 := Tryz.zeroValue0
 i0 := by kernel_rfl
 t3 := Tryz.underlying3
 a3 := Tryz.isAgg3
 z3 := Tryz.sizeOf3
 v3 := Tryz.zeroValue3
 i3 := by kernel_rfl
 t4 := Tryz.underlying4
 a4 := Tryz.isAgg4
 z4 := Tryz.sizeOf4
 v4 := Tryz.zeroValue4
 i4 := by kernel_rfl
 t5 := Tryz.underlying5
 a5 := Tryz.isAgg5
 z5 := Tryz.sizeOf5
 v5 := Tryz.zeroValue5
 i5 := by kernel_rfl
 t21 := Tryz.underlying21
 a21 := Tryz.isAgg21
 z21 := Tryz.sizeOf21
 v21 := Tryz.zeroValue21
 i21 := by kernel_rfl
 t25 := Tryz.underlying172
 a25 := Tryz.isAgg172
 z25 := Tryz.sizeOf172
 v25 := Tryz.zeroValue172
 i25 := by kernel_rfl
 t30 := Tryz.underlying22
 a30 := Tryz.isAgg22
 z30 := Tryz.sizeOf22
 v30 := Tryz.zeroValue22
 i30 := by kernel_rfl
 t33 := Tryz.underlying102
 a33 := Tryz.isAgg102
 z33 := Tryz.sizeOf102
 v33 := Tryz.zeroValue102
 i33 := by kernel_rfl
 t66 := Tryz.underlying175
 a66 := Tryz.isAgg175
 z66 := Tryz.sizeOf175
 t68 := Tryz.underlying177
 a68 := Tryz.isAgg177
 z68 := Tryz.sizeOf177
 v68 := Tryz.zeroValue177
 i68 := by kernel_rfl
 t69 := Tryz.underlying178
 a69 := Tryz.isAgg178
 z69 := Tryz.sizeOf178
 v69 := Tryz.zeroValue178
 i69 := by kernel_rfl
 g2 := by kernel_rfl
 g3 := by kernel_rfl }
open Go.RowKit in
theorem Tryz.utf8_DecodeRune (s : ByteArray) (b off cap : Nat) (w : World) (hT : Lib.Utf8Tabs 2 3 w) (hp : ∀ j, j < s.size → w.cell? ⟨b, off + j, none⟩ = some (.int .u8 (s.get! j).toNat)) :
  Calls Tryz.prog 61 #[.slice (some ⟨b, off, none⟩) s.size cap] w fun e w' => e = .returned (.tuple #[.int .i32 (Lib.decodeGo s).1, .int .i64 (Lib.decodeGo s).2]) ∧ Below w.heap.size w w' := Any7.utf8_DecodeRune Tryz.lays7n32 s b off cap w hT hp
end Go.Proofs
end
section
set_option linter.unusedVariables false
set_option linter.unusedSimpArgs false
namespace Go.Proofs.YtenkkekooimpjaaGreatDoor.Ev
open Go Go.RowKit
def errV (b : Bool) (v : Value) : Prop := if b = true then ∃ t u, v = .iface t u else v = .nilIface
theorem Fn.of_below_ie {P : Program} {f : FuncId} (xs : List FV) {vs : List Value} {n : Int} {b : Bool} (hx : xs.mapM bareV = some vs)
  (hc : ∀ w, Glob w → Calls P f vs.toArray w fun e w' => (∃ v, e = .returned (.tuple #[.int .i64 n, v]) ∧ errV b v) ∧ Below w.heap.size w w') : Fn P f (xs.map fun x => .one (.fz x)) [] (.tup [(false, [.fz (.int .i64 n)]), (false, [.fz (.ifc b)])]) [] := by
 intro ext w locs vals H hsz hrep
 have e : vals = vs.toArray := by
  have := args_bare xs vs vals.toList hx (by simpa using hsz) (fun i x h => by obtain ⟨v, h1, h2⟩ := hrep i x h; exact ⟨v, by simpa using h1, h2⟩)
  rw [← this]
 subst e
 refine (hc w H.glob).mono ?_
 rintro e w' ⟨⟨v, rfl, hv⟩, hb⟩
 refine ⟨.tuple #[.int .i64 n, v], locs, rfl, H.below hb, #[.int .i64 n, v], rfl, rfl, fun i b' cs hi => ?_⟩
 match i with
 | 0 =>
  cases hi
  refine ⟨.int .i64 n, rfl, [.int .i64 n], rfl, rfl, fun _ => rfl, fun j x hj => ?_⟩
  cases j with
  | zero => cases hj; exact ⟨_, rfl, .int _ _⟩
  | succ j => simp at hj
 | 1 =>
  cases hi
  refine ⟨v, rfl, [v], rfl, rfl, fun _ => rfl, fun j x hj => ?_⟩
  cases j with
  | zero =>
   cases hj
   refine ⟨v, rfl, ?_⟩
   cases b
   ·have : v = .nilIface := hv
    subst this
    exact .ifcN
   ·obtain ⟨t, u, rfl⟩ := hv
    exact .ifcS _ _
  | succ j => simp at hj
 | i + 2 => simp at hi
theorem tab_ifc {w : World} {g : Nat} (h : TabAt w (fun _ => True) g [.ifc true]) : ∃ t u, w.cell? ⟨g, 0, none⟩ = some (.iface t u) := by
 obtain ⟨c, t, z, h1, h2, h3⟩ := h
 obtain ⟨v, hv, hr⟩ := h3 0 _ rfl
 cases hr
 rename_i t' v'
 exact ⟨t', v', by simp [World.cell?, h1, hv]⟩
def atoiV (s : ByteArray) : Int := match Lib.atoiAll s.data.toList with
 | .ok v => v
 | .range => Lib.atoiSat s.data.toList
 | _ => 0
def atoiE (s : ByteArray) : Bool := match Lib.atoiAll s.data.toList with
 | .ok _ => false
 | _ => true
theorem Atoi_fn (s : ByteArray) (hs : s.size ≤ 281474976710656) : Fn Tryz.prog 163 [.one (.fz (.str s))] [] (.tup [(false, [.fz (.int .i64 (atoiV s))]), (false, [.fz (.ifc (atoiE s))])]) [] :=
 Fn.of_below_ie [.str s] rfl fun w hg => by
  unfold atoiV atoiE
  cases h : Lib.atoiAll s.data.toList
  case ok v =>
   refine (Tryz.strconv_Atoi_ok s (by omega) v h w).mono ?_
   rintro e w' ⟨rfl, hw⟩
   refine ⟨⟨_, rfl, rfl⟩, ?_⟩
   rcases hw with rfl | ⟨t, rfl⟩
   ·exact Below.refl _ _
   ·exact Lib.bytesWorld_below _ _ _
  case range =>
   have h1 := hg (7, [.ifc true]) (by simp [tabs])
   obtain ⟨t, u, h2⟩ := tab_ifc h1
   refine (Tryz.strconv_Atoi_range s hs h _ w h2 (.inr ⟨_, _, rfl⟩)).mono ?_
   rintro e w' ⟨N, rfl, _, _, hb⟩
   exact ⟨⟨_, rfl, _, _, rfl⟩, hb⟩
  all_goals
   have h1 := hg (6, [.ifc true]) (by simp [tabs])
   obtain ⟨t, u, h2⟩ := tab_ifc h1
   refine (Tryz.strconv_Atoi_syntax s hs h _ w h2 (.inr ⟨_, _, rfl⟩)).mono ?_
   rintro e w' ⟨N, rfl, _, _, hb⟩
   exact ⟨⟨_, rfl, _, _, rfl⟩, hb⟩
theorem TrimPrefix_fn (s p : ByteArray) : Fn Tryz.prog 160 [.one (.fz (.str s)), .one (.fz (.str p))] [] (.one (.fz (.str ⟨(Lib.trimPrefix s.data.toList p.data.toList).toArray⟩))) [] :=
 Fn.of_below [.str s, .str p] rfl rfl fun w hg => (Tryz.strings_TrimPrefix s p w).mono fun e w' ⟨h1, h2⟩ => ⟨h1, h2 ▸ Below.refl _ _⟩
theorem TrimLeft_fn (s : ByteArray) (c : UInt8) (hc : c.toNat < 128) : Fn Tryz.prog 162 [.one (.fz (.str s)), .one (.fz (.str ⟨#[c]⟩))] [] (.one (.fz (.str ⟨(Lib.trimLeftB s.data.toList c).toArray⟩))) [] :=
 Fn.of_below [.str s, .str ⟨#[c]⟩] rfl rfl fun w hg => (Tryz.strings_TrimLeft_one s c hc w).mono fun e w' ⟨h1, h2⟩ => ⟨h1, h2 ▸ Below.refl _ _⟩
theorem Trim_fn (s cs : ByteArray) (hs : s.size ≤ 9223372036854775807) (hcs : cs.size < 4294967281) (ha : cs.data.toList.all (fun b => decide (b.toNat < 128)) = true) :
  Fn Tryz.prog 161 [.one (.fz (.str s)), .one (.fz (.str cs))] [] (.one (.fz (.str ⟨(Lib.trimS s.data.toList cs.data.toList).toArray⟩))) [] :=
 Fn.of_below [.str s, .str cs] rfl rfl fun w hg => Any.strings_Trim_laid Tryz.lays160 (by kernel_rfl) s cs w hs hcs (ascii_of_all ha)
end Go.Proofs.YtenkkekooimpjaaGreatDoor.Ev
end
section
set_option linter.unusedVariables false
set_option maxRecDepth 100000
namespace Go.Proofs.YtenkkekooimpjaaGreatDoor.Ev
open Go
def num_Parse_lv : List Nat → Keep := lvOf [([0, 1, 0, 1, 1, 1, 1, 1, 1, 1, 1], ⟨244, 0, [], false, false⟩)]
def num_Parse_S0 (s4 : ByteArray) (minus : Bool) (end_ : Int) (o : LL) : St := (St.mk [TV.und, TV.und, (TV.one (AV.ptr 0 0 0 0)), TV.und, (TV.one (AV.fz (FV.str s4))), (TV.one (AV.fz (FV.bool minus))), (TV.one (AV.ofl 1 1)), (TV.one (AV.fz (FV.int .i64 end_))), TV.und, TV.und, TV.und, TV.und, TV.und, TV.und, TV.und, TV.und, TV.und, TV.und, TV.und, TV.und, TV.und, TV.und, TV.und, TV.und, TV.und, TV.und, TV.und, TV.und, TV.und, TV.und, TV.und, TV.und, TV.und, TV.und, TV.und, TV.und, TV.und, TV.und, TV.und, TV.und, TV.und, TV.und, TV.und, TV.und, TV.und, TV.und, TV.und, TV.und, TV.und, TV.und, TV.und, TV.und, TV.und, TV.und, TV.und, TV.und, TV.und, TV.und, TV.und, TV.und, TV.und, TV.und, TV.und, TV.und, TV.und] [(Ob.g 31 [(AV.fz (FV.bool false)), (AV.ofl 1 2)]), (Ob.f 0 1 o), (Ob.f 0 1 ([] : LL))])
def num_Parse_L0 (R : TV → List Ob → Prop) (s4 : ByteArray) (minus : Bool) (end_ : Int) (o : LL) : Prop := LoopAt Tryz.prog (modeOf [] []) num_Parse_lv Tryz.f137 none R [1, 1, 1, 1, 1, 1, 1, 1, 0, 1, 0] (num_Parse_S0 s4 minus end_ o)
def num_Parse_R0 (R : TV → List Ob → Prop) (s4 : ByteArray) (minus : Bool) (end_ : Int) (o : List (List FV)) : Prop :=
 ((((decide ((0 : Int) < end_)) = true) → ((((0 : Int) ≤ (if ((0 : Int) > (IntKind.wrap .i64 (end_ - 9))) then 0 else (IntKind.wrap .i64 (end_ - 9)))) ∧ (((if ((0 : Int) > (IntKind.wrap .i64 (end_ - 9))) then 0 else (IntKind.wrap .i64 (end_ - 9))) ≤ end_) ∧ (end_ ≤ (((ByteArray.size s4) : Nat) : Int)))) ∧ (∃ n6 : Int, (∃ b6 : Bool, ((Fn Tryz.prog 163 [(TV.one (AV.fz (FV.str (ByteArray.extract s4 (Int.toNat (if ((0 : Int) > (IntKind.wrap .i64 (end_ - 9))) then 0 else (IntKind.wrap .i64 (end_ - 9)))) (Int.toNat end_)))))] [] (TV.tup [(false, [(AV.fz (FV.int .i64 n6))]), (false, [(AV.fz (FV.ifc b6))])]) []) ∧ (((((List.length o) + (List.length [[(FV.int .u32 (IntKind.wrap .u32 n6))]])) * 4) ≤ 220000000000000) ∧ (num_Parse_L0 R s4 minus (IntKind.wrap .i64 (end_ - 9)) (o ++ [[(FV.int .u32 (IntKind.wrap .u32 n6))]])))))))) ∧ (((decide ((0 : Int) < end_)) = false) → (∃ b7 : Bool, (∃ es3 : LL, (∃ n7 : Int, ((Fn Tryz.prog 164 [(TV.one (AV.fz (FV.bool minus))), (TV.one (AV.fz (FV.sl 1 o)))] [] (TV.tup [(true, [(AV.fz (FV.bool b7)), (AV.fz (FV.sl 1 es3))]), (false, [(AV.fz (FV.int .i64 n7))])]) []) ∧ (R (TV.tup [(true, [(AV.fz (FV.bool b7)), (AV.fz (FV.sl 1 es3))]), (false, [(AV.fz (FV.bool (n7 == 0)))])]) [])))))))
theorem num_Parse_l0 {R : TV → List Ob → Prop} {s4 : ByteArray} {minus : Bool} {end_ : Int} {o : LL} (h : num_Parse_R0 R s4 minus end_ o) : num_Parse_L0 R s4 minus end_ o :=
 LoopAt.by_tr (by kernel_rfl) (by kernel_rfl) h
def num_Parse_H (R : TV → List Ob → Prop) (s : ByteArray) : Prop :=
 (∃ s7 : ByteArray, ((Fn Tryz.prog 160 [(TV.one (AV.fz (FV.str s))), (TV.one (AV.fz (FV.str (ByteArray.mk #[45]))))] [] (TV.one (AV.fz (FV.str s7))) []) ∧ ((((Bool.not (Bool.not ((ByteArray.toList s7) == (ByteArray.toList s)))) = true) → (∃ s8 : ByteArray, ((Fn Tryz.prog 160 [(TV.one (AV.fz (FV.str s))), (TV.one (AV.fz (FV.str (ByteArray.mk #[43]))))] [] (TV.one (AV.fz (FV.str s8))) []) ∧ (((((ByteArray.toList s8) == (ByteArray.toList (ByteArray.mk #[]))) = true) → (R (TV.tup [(true, [(AV.fz (FV.bool false)), (AV.fz (FV.sl 1 ([] : LL)))]), (false, [(AV.fz (FV.bool false))])]) [])) ∧ ((((ByteArray.toList s8) == (ByteArray.toList (ByteArray.mk #[]))) = false) → (∃ s9 : ByteArray, ((Fn Tryz.prog 161 [(TV.one (AV.fz (FV.str s8))), (TV.one (AV.fz (FV.str (ByteArray.mk #[48, 49, 50, 51, 52, 53, 54, 55, 56, 57]))))] [] (TV.one (AV.fz (FV.str s9))) []) ∧ ((((Bool.not ((ByteArray.toList s9) == (ByteArray.toList (ByteArray.mk #[])))) = true) → (R (TV.tup [(true, [(AV.fz (FV.bool false)), (AV.fz (FV.sl 1 ([] : LL)))]), (false, [(AV.fz (FV.bool false))])]) [])) ∧ (((Bool.not ((ByteArray.toList s9) == (ByteArray.toList (ByteArray.mk #[])))) = false) → (∃ s10 : ByteArray, ((Fn Tryz.prog 162 [(TV.one (AV.fz (FV.str s8))), (TV.one (AV.fz (FV.str (ByteArray.mk #[48]))))] [] (TV.one (AV.fz (FV.str s10))) []) ∧ ((((decide ((576 : Int) < (((ByteArray.size s10) : Nat) : Int))) = true) → (R (TV.tup [(true, [(AV.fz (FV.bool false)), (AV.fz (FV.sl 1 ([] : LL)))]), (false, [(AV.fz (FV.bool false))])]) [])) ∧ (((decide ((576 : Int) < (((ByteArray.size s10) : Nat) : Int))) = false) → (num_Parse_L0 R s10 (Bool.not ((ByteArray.toList s7) == (ByteArray.toList s))) (((ByteArray.size s10) : Nat) : Int) ([] : LL))))))))))))))) ∧ (((Bool.not (Bool.not ((ByteArray.toList s7) == (ByteArray.toList s)))) = false) → (((((ByteArray.toList s7) == (ByteArray.toList (ByteArray.mk #[]))) = true) → (R (TV.tup [(true, [(AV.fz (FV.bool false)), (AV.fz (FV.sl 1 ([] : LL)))]), (false, [(AV.fz (FV.bool false))])]) [])) ∧ ((((ByteArray.toList s7) == (ByteArray.toList (ByteArray.mk #[]))) = false) → (∃ s11 : ByteArray, ((Fn Tryz.prog 161 [(TV.one (AV.fz (FV.str s7))), (TV.one (AV.fz (FV.str (ByteArray.mk #[48, 49, 50, 51, 52, 53, 54, 55, 56, 57]))))] [] (TV.one (AV.fz (FV.str s11))) []) ∧ ((((Bool.not ((ByteArray.toList s11) == (ByteArray.toList (ByteArray.mk #[])))) = true) → (R (TV.tup [(true, [(AV.fz (FV.bool false)), (AV.fz (FV.sl 1 ([] : LL)))]), (false, [(AV.fz (FV.bool false))])]) [])) ∧ (((Bool.not ((ByteArray.toList s11) == (ByteArray.toList (ByteArray.mk #[])))) = false) → (∃ s12 : ByteArray, ((Fn Tryz.prog 162 [(TV.one (AV.fz (FV.str s7))), (TV.one (AV.fz (FV.str (ByteArray.mk #[48]))))] [] (TV.one (AV.fz (FV.str s12))) []) ∧ ((((decide ((576 : Int) < (((ByteArray.size s12) : Nat) : Int))) = true) → (R (TV.tup [(true, [(AV.fz (FV.bool false)), (AV.fz (FV.sl 1 ([] : LL)))]), (false, [(AV.fz (FV.bool false))])]) [])) ∧ (((decide ((576 : Int) < (((ByteArray.size s12) : Nat) : Int))) = false) → (num_Parse_L0 R s12 (Bool.not ((ByteArray.toList s7) == (ByteArray.toList s))) (((ByteArray.size s12) : Nat) : Int) ([] : LL))))))))))))))))
theorem num_Parse_fn (s : ByteArray) {r : TV} {h : List Ob} (H : num_Parse_H (fun r' h' => r' = r ∧ h' = h) s) : Fn Tryz.prog 137 [(TV.one (AV.fz (FV.str s)))] [] r h :=
 Fn.by_tr (M := (modeOf [] [])) (lv := num_Parse_lv) (own := none) (F := Tryz.f137) (by kernel_rfl) (by kernel_rfl) (by first | decide | simp) (fun _ _ h => h) (by kernel_rfl) H
end Go.Proofs.YtenkkekooimpjaaGreatDoor.Ev
end
section
set_option linter.unusedVariables false
set_option linter.unusedSimpArgs false
namespace Go.Proofs.YtenkkekooimpjaaGreatDoor.Ev
open Go
def bv (acc : Int) (ds : List Int) : Int := ds.foldl (fun a d => a * 10 + d) acc
def ub (ds : List Int) : List UInt8 := ds.map fun d => UInt8.ofNat (48 + d).toNat
theorem bv_snoc (acc : Int) (ds : List Int) (d : Int) : bv acc (ds ++ [d]) = bv acc ds * 10 + d := by simp [bv]
theorem bv_val : ∀ l : List Int, bv 0 l.reverse = val 10 l
 | [] => rfl
 | d :: l => by rw [List.reverse_cons, bv_snoc, bv_val l]; show _ = d + 10 * val 10 l; omega
theorem bv_ge : ∀ (ds : List Int) (acc : Int), 0 ≤ acc → Lim 10 ds → acc ≤ bv acc ds
 | [], acc, _, _ => Int.le_refl _
 | d :: ds, acc, h0, h => by
  have hd := h d List.mem_cons_self
  have := bv_ge ds (acc * 10 + d) (by omega) (fun x hx => h x (List.mem_cons_of_mem _ hx))
  show acc ≤ bv (acc * 10 + d) ds
  omega
theorem ub_digit {d : Int} (h0 : 0 ≤ d) (h1 : d < 10) : (UInt8.ofNat (48 + d).toNat).toNat = 48 + d.toNat := by
 rw [UInt8.toNat_ofNat']; omega
theorem parse_ub : ∀ (ds : List Int) (acc : Nat), acc < 18446744073709551616 → Lim 10 ds → Lib.parseUint10 acc (ub ds) = if bv acc ds < 18446744073709551616 then .ok (bv acc ds).toNat else .range
 | [], acc, ha, _ => by
  show Lib.NumEnd.ok acc = _
  have : bv acc [] = acc := rfl
  rw [this, if_pos (by omega)]; simp
 | d :: ds, acc, ha, h => by
  have hd := h d List.mem_cons_self
  have ht : Lim 10 ds := fun x hx => h x (List.mem_cons_of_mem _ hx)
  have e := ub_digit hd.1 hd.2
  show Lib.parseUint10 acc (UInt8.ofNat (48 + d).toNat :: ub ds) = _
  have hb : bv acc (d :: ds) = bv (acc * 10 + d) ds := rfl
  have hg := bv_ge ds (acc * 10 + d) (by omega) ht
  unfold Lib.parseUint10
  rw [e, if_pos (by omega), hb]
  have e2 : 48 + d.toNat - 48 = d.toNat := by omega
  rw [e2]
  by_cases h1 : 1844674407370955162 ≤ acc
  ·rw [if_pos h1, if_neg (by omega)]
  ·rw [if_neg h1]
   by_cases h2 : 18446744073709551616 ≤ acc * 10 + d.toNat
   ·rw [if_pos h2, if_neg (by omega)]
   ·rw [if_neg h2, parse_ub ds _ (by omega) ht]
    have : (((acc * 10 + d.toNat : Nat)) : Int) = acc * 10 + d := by omega
    rw [this]
theorem data_of (l : List Int) : (bytesOf l).data.toList = l.map fun n => UInt8.ofNat n.toNat := by simp [bytesOf]
end Go.Proofs.YtenkkekooimpjaaGreatDoor.Ev
end
section
set_option linter.unusedVariables false
set_option linter.unusedSimpArgs false
namespace Go.Proofs.YtenkkekooimpjaaGreatDoor.Ev
open Go
theorem ba_ext {s t : ByteArray} (h : s.data.toList = t.data.toList) : s = t := by
 cases s; cases t
 congr
 exact Array.toList_inj.1 h
def tb (ds : List Int) : ByteArray := ⟨(ub ds).toArray⟩
theorem tb_size (ds : List Int) : (tb ds).size = ds.length := by
 show (tb ds).data.size = _
 simp [tb, ub]
theorem tb_extract (ds : List Int) (a b : Nat) : (tb ds).extract a b = tb ((ds.drop a).take (b - a)) := by
 refine ba_ext ?_
 have h := Lib.extract_toList (tb ds) a b
 rw [ByteArray.toList_eq] at h
 rw [h]
 simp [tb, ub]
theorem app_of (l m : List Int) : bytesOf l ++ bytesOf m = bytesOf (l ++ m) := by
 refine ba_ext ?_
 simp [bytesOf, ByteArray.data_append]
theorem extract_of (l : List Int) (a b : Nat) : (bytesOf l).extract a b = bytesOf ((l.drop a).take (b - a)) := by
 refine ba_ext ?_
 have h := Lib.extract_toList (bytesOf l) a b
 rw [ByteArray.toList_eq] at h
 rw [h]
 simp [bytesOf]
theorem bv_app (l m : List Int) (acc : Int) : bv acc (l ++ m) = bv (bv acc l) m := by simp [bv]
theorem bv_acc : ∀ (m : List Int) (acc : Int), bv acc m = acc * 10 ^ m.length + bv 0 m
 | [], acc => by show acc = acc * 10 ^ 0 + 0; rw [Int.pow_zero]; omega
 | d :: m, acc => by
  show bv (acc * 10 + d) m = _
  rw [bv_acc m (acc * 10 + d)]
  have h : bv 0 (d :: m) = bv (0 * 10 + d) m := rfl
  rw [h, bv_acc m (0 * 10 + d), List.length_cons, Int.pow_succ]
  grind
theorem bv_join (l m : List Int) : bv 0 (l ++ m) = bv 0 l * 10 ^ m.length + bv 0 m := by rw [bv_app, bv_acc]
theorem bv_nonneg (l : List Int) (h : Lim 10 l) : 0 ≤ bv 0 l := bv_ge l 0 (by omega) h
theorem bv_lt (l : List Int) (h : Lim 10 l) : bv 0 l < 10 ^ l.length := by
 have h1 := bv_val l.reverse
 rw [List.reverse_reverse] at h1
 have h2 := val_lt (B := 10) (by omega) (l := l.reverse) (fun x hx => h x (by simpa using hx))
 rw [List.length_reverse] at h2
 omega
theorem bv_cut : ∀ l : List Int, bv 0 (l.dropWhile (· == 0)) = bv 0 l
 | [] => rfl
 | d :: l => by
  rw [List.dropWhile_cons]
  split
  ·rename_i h
   have : d = 0 := by simpa using h
   subst this
   exact bv_cut l
  ·rfl
theorem cut_norm (l : List Int) : Norm (l.dropWhile (· == 0)).reverse := by
 intro hne
 rw [List.getLast_reverse]
 have h1 : l.dropWhile (· == 0) ≠ [] := by simpa using hne
 have := List.head_dropWhile_not (p := fun x : Int => x == 0) (l := l) h1
 simpa using this
theorem cut_lim {l : List Int} (h : Lim 10 l) : Lim 10 (l.dropWhile (· == 0)) := fun x hx => h x ((List.dropWhile_sublist _).subset hx)
theorem cut_digs {l : List Int} (h : Lim 10 l) : (digs 10 (bv 0 l).toNat).length = (l.dropWhile (· == 0)).length := by
 have h1 := bv_val (l.dropWhile (· == 0)).reverse
 rw [List.reverse_reverse, bv_cut] at h1
 have hL : Lim 10 (l.dropWhile (· == 0)).reverse := fun x hx => cut_lim h x (by simpa using hx)
 rw [h1, digsT_eq hL (cut_norm l), List.length_reverse]
theorem atoi_short {ds : List Int} (hne : ds ≠ []) (h : Lim 10 ds) (hl : ds.length ≤ 9) : Lib.atoiAll (ub ds) = .ok (bv 0 ds) := by
 have h0 := bv_nonneg ds h
 have h1 := bv_lt ds h
 have h2 := pow_mono (B := 10) (by omega) hl
 have e9 : (10 : Int) ^ 9 = 1000000000 := by decide
 match ds, hne with
 | d :: ds, _ =>
  have hd := h d List.mem_cons_self
  have e := ub_digit hd.1 hd.2
  have hp := parse_ub (d :: ds) 0 (by omega) h
  rw [show ((0 : Nat) : Int) = 0 from rfl] at hp
  have hm : Lib.parseMag (ub (d :: ds)) = .ok (bv 0 (d :: ds)).toNat := by
   unfold Lib.parseMag
   rw [if_neg (by simp [ub]), hp, if_pos (by omega)]
  rw [show ub (d :: ds) = UInt8.ofNat (48 + d).toNat :: ub ds from rfl] at hm ⊢
  rw [Lib.atoiAll_plain _ _ (by rw [e]; omega) (by rw [e]; omega), hm]
  generalize bv 0 (d :: ds) = v at *
  show (if 9223372036854775808 ≤ v.toNat then Lib.NumEnd.range else .ok ((v.toNat : Nat) : Int)) = _
  rw [if_neg (by omega), Int.toNat_of_nonneg h0]
theorem ring_parse (p B L x : Int) : p * (L * B + x) = p * x + p * B * L := by grind
theorem parse_loop (m : Bool) (D : List Int) (hD : Lim 10 D) (hn : D.length ≤ 576) (R : TV → List Ob → Prop) (z : Int) (hz : z = if m = true then - bv 0 D else bv 0 D)
  (hR : R (.tup [(true, [.fz (.bool (outS z)), .fz (.sl 1 (ints .u32 (outL z)))]), (false, [.fz (.bool (outE z == 0))])]) []) :
  ∀ (k e : Nat) (ei : Int) (o : List Int), e ≤ k → e ≤ D.length → (ei = e ∨ (e = 0 ∧ -9 ≤ ei ∧ ei ≤ 0)) → o.length + e ≤ D.length → Lim 1000000000 o → val 1000000000 o + 1000000000 ^ o.length * bv 0 (D.take e) = bv 0 D →
   num_Parse_L0 R (tb D) m ei (ints .u32 o)
 | k, e, ei, o, hk, he, hei, hlen, hL, hv => by
  refine num_Parse_l0 ?_
  unfold num_Parse_R0
  simp only [dec_t, dec_f, ints_snoc, ints_len, ints_one]
  refine ⟨fun h => ?_, fun h => ?_⟩
  ·have e1 : ei = e := by omega
   subst e1
   have e2 : IntKind.wrap .i64 ((e : Int) - 9) = (e : Int) - 9 := w64 (by omega) (by omega)
   have e3 : (if (0 : Int) > (e : Int) - 9 then 0 else (e : Int) - 9) = ((e - 9 : Nat) : Int) := by split <;> omega
   rw [e2, e3, Int.toNat_natCast, Int.toNat_natCast, tb_extract, tb_size]
   have hLc : Lim 10 ((D.drop (e - 9)).take (e - (e - 9))) := (hD.drop _).take _
   have hlc : ((D.drop (e - 9)).take (e - (e - 9))).length = e - (e - 9) := by rw [List.length_take, List.length_drop]; omega
   have hne : (D.drop (e - 9)).take (e - (e - 9)) ≠ [] := fun h0 => by rw [h0] at hlc; simp at hlc; omega
   have hsplit : D.take e = D.take (e - 9) ++ (D.drop (e - 9)).take (e - (e - 9)) := by
    rw [← List.take_add]; congr 1; omega
   have hb0 := bv_nonneg _ hLc
   have hb1 := bv_lt _ hLc
   have hb2 := pow_mono (B := 10) (by omega) (show ((D.drop (e - 9)).take (e - (e - 9))).length ≤ 9 by omega)
   have e9 : (10 : Int) ^ 9 = 1000000000 := by decide
   have ha := atoi_short hne hLc (by omega)
   have hj : bv 0 (D.take e) = bv 0 (D.take (e - 9)) * 1000000000 + bv 0 ((D.drop (e - 9)).take (e - (e - 9))) := by
    rw [hsplit, bv_join, hlc]
    by_cases h9 : 9 ≤ e
    ·rw [show e - (e - 9) = 9 by omega, e9]
    ·rw [show e - 9 = 0 by omega, List.take_zero]
     show 0 * _ + _ = 0 * _ + _
     omega
   rw [hj] at hv
   generalize (D.drop (e - 9)).take (e - (e - 9)) = c at *
   have hA := Atoi_fn (tb c) (by rw [tb_size]; omega)
   have hav : atoiV (tb c) = bv 0 c := by
    unfold atoiV
    rw [show (tb c).data.toList = ub c from by simp [tb], ha]
   rw [hav] at hA
   refine ⟨⟨by omega, by omega, by omega⟩, _, _, hA, ?_, ?_⟩
   ·simp only [List.length_cons, List.length_nil]; omega
   ·rw [wu32 (by omega) (by omega), ints_app]
    match k, hk with
    | 0, hk => omega
    | k + 1, hk =>
     refine parse_loop m D hD hn R z hz hR k (e - 9) ((e : Int) - 9) (o ++ [bv 0 c]) (by omega) (by omega) (by omega) (by simp; omega) (hL.snoc hb0 (by omega)) ?_
     rw [val_snoc, List.length_append, List.length_singleton, Int.pow_succ, ← hv, ring_parse]
     omega
  ·have e0 : e = 0 := by omega
   subst e0
   rw [List.take_zero, show bv 0 [] = 0 from rfl, Int.mul_zero, Int.add_zero] at hv
   have hz2 : sv m o = z := by rw [hz, ← hv]; rfl
   have := of_ok m o (by omega) hL
   rw [hz2] at this
   exact ⟨_, _, _, this, hR⟩
def okX (X : List Int) : Bool := decide (X ≠ []) && X.all fun c => decide (48 ≤ c ∧ c ≤ 57)
def vX (X : List Int) : Int := bv 0 (X.map (· - 48))
def ptS (m : Bool) (X : List Int) : Bool := if okX X = true then mkS m (vX X) else false
def ptL (X : List Int) : List Int := if okX X = true then mkL (vX X) else []
def ptB (X : List Int) : Bool := if okX X = true then mkB (vX X) else false
abbrev ptT (m : Bool) (X : List Int) : TV := .tup [(true, [.fz (.bool (ptS m X)), .fz (.sl 1 (ints .u32 (ptL X)))]), (false, [.fz (.bool (ptB X))])]
abbrev ptBad : TV := .tup [(true, [.fz (.bool false), .fz (.sl 1 ([] : List (List FV)))]), (false, [.fz (.bool false)])]
theorem ptT_bad {m : Bool} {X : List Int} (h : okX X = false) : ptT m X = ptBad := by
 unfold ptT ptS ptL ptB; rw [h]; rfl
theorem ptT_large {m : Bool} {X : List Int} (h : mkB (vX X) = false) : ptT m X = ptBad := by
 have h1 : 576 < (digs 10 (vX X).toNat).length := by
  unfold mkB at h
  split at h
  ·assumption
  ·cases h
 unfold ptT ptS ptL ptB mkS mkL mkB
 rw [if_pos h1, if_pos h1, if_pos h1]
 cases okX X <;> rfl
theorem pt_dig {X : List Int} (h : X.all (fun c => decide (48 ≤ c ∧ c ≤ 57)) = true) : Lim 10 (X.map (· - 48)) ∧ (bytesOf X).data.toList = ub (X.map (· - 48)) := by
 rw [List.all_eq_true] at h
 constructor
 ·intro x hx
  obtain ⟨c, hc, rfl⟩ := List.mem_map.1 hx
  have := h c hc
  simp only [decide_eq_true_eq] at this
  omega
 ·rw [data_of, ub, List.map_map]
  refine List.map_congr_left fun c hc => ?_
  show UInt8.ofNat c.toNat = UInt8.ofNat (48 + (c - 48)).toNat
  congr 2
  omega
theorem dw_nil (p : UInt8 → Bool) : ∀ l : List UInt8, l.dropWhile p = [] ↔ ∀ x ∈ l, p x = true
 | [] => by simp
 | x :: l => by
  rw [List.dropWhile_cons]
  by_cases h : p x = true
  ·rw [if_pos h, dw_nil p l]; simp [h]
  ·rw [if_neg h]; simp [h]
theorem trim_nil (p : UInt8 → Bool) (l : List UInt8) : ((l.reverse.dropWhile p).reverse.dropWhile p = []) ↔ l.all p = true := by
 rw [dw_nil, List.all_eq_true]
 constructor
 ·intro h
  have h2 : l.reverse.dropWhile p = [] := by
   by_cases hne : l.reverse.dropWhile p = []
   ·exact hne
   ·have := List.head_dropWhile_not (p := p) (l := l.reverse) hne
    have h3 := h _ (List.mem_reverse.2 (List.head_mem hne))
    rw [this] at h3; cases h3
  rw [dw_nil] at h2
  exact fun x hx => h2 x (by simpa using hx)
 ·intro h x hx
  exact h x (by simpa using (List.dropWhile_sublist _).subset (List.mem_reverse.1 hx))
theorem ten_has (c : UInt8) : ([48, 49, 50, 51, 52, 53, 54, 55, 56, 57] : List UInt8).contains c = decide (48 ≤ c.toNat ∧ c.toNat ≤ 57) := by
 rw [Bool.eq_iff_iff]
 simp [← UInt8.toNat_inj]
 omega
theorem all_map {X : List Int} (hX : Bytes X) : (X.map fun n => UInt8.ofNat n.toNat).all (([48, 49, 50, 51, 52, 53, 54, 55, 56, 57] : List UInt8).contains ·) = X.all fun c => decide (48 ≤ c ∧ c ≤ 57) := by
 rw [Bool.eq_iff_iff, List.all_map, List.all_eq_true, List.all_eq_true]
 refine forall_congr' fun x => ⟨fun h hx => ?_, fun h hx => ?_⟩
 all_goals
  have h1 := h hx
  have h2 := hX x hx
  have h3 := u8_back h2.1 h2.2
 ·simp only [Function.comp_apply, ten_has, decide_eq_true_eq] at h1 ⊢
  omega
 ·simp only [Function.comp_apply, ten_has, decide_eq_true_eq] at h1 ⊢
  omega
theorem trim_test {X : List Int} (hX : Bytes X) : ((ByteArray.toList ⟨(Lib.trimS (bytesOf X).data.toList (ByteArray.mk #[48, 49, 50, 51, 52, 53, 54, 55, 56, 57]).data.toList).toArray⟩) == ByteArray.toList (ByteArray.mk #[])) = X.all fun c => decide (48 ≤ c ∧ c ≤ 57) := by
 rw [ByteArray.toList_eq, ByteArray.toList_eq, ← all_map hX, data_of]
 generalize X.map (fun n => UInt8.ofNat n.toNat) = l
 rw [Bool.eq_iff_iff, ← trim_nil, beq_iff_eq]
 rfl
theorem cutB : ∀ (D : List Int), Lim 10 D → Lib.trimLeftB (ub D) 48 = ub (D.dropWhile (· == 0))
 | [], _ => rfl
 | d :: D, h => by
  have hd := h d List.mem_cons_self
  have e := ub_digit hd.1 hd.2
  have ih := cutB D (fun x hx => h x (List.mem_cons_of_mem _ hx))
  show List.dropWhile _ (UInt8.ofNat (48 + d).toNat :: ub D) = ub (List.dropWhile _ (d :: D))
  rw [List.dropWhile_cons, List.dropWhile_cons]
  by_cases h0 : d = 0
  ·subst h0
   exact ih
  ·have : (UInt8.ofNat (48 + d).toNat == 48) = false := by
    rw [beq_eq_false_iff_ne, ne_eq, ← UInt8.toNat_inj, e]
    show ¬ 48 + d.toNat = 48
    omega
   rw [this, show (d == 0) = false by simpa using h0]
   rfl
theorem parse_tail (m : Bool) (X : List Int) (hX : Bytes X) (hlen : X.length ≤ 140737488355328) (R : TV → List Ob → Prop) (hR : R (ptT m X) []) :
  ((ByteArray.toList (bytesOf X) == ByteArray.toList (ByteArray.mk #[])) = true → R ptBad []) ∧
  ((ByteArray.toList (bytesOf X) == ByteArray.toList (ByteArray.mk #[])) = false →
   ∃ s9 : ByteArray, Fn Tryz.prog 161 [.one (.fz (.str (bytesOf X))), .one (.fz (.str (ByteArray.mk #[48, 49, 50, 51, 52, 53, 54, 55, 56, 57])))] [] (.one (.fz (.str s9))) [] ∧
    ((Bool.not (ByteArray.toList s9 == ByteArray.toList (ByteArray.mk #[]))) = true → R ptBad []) ∧
    ((Bool.not (ByteArray.toList s9 == ByteArray.toList (ByteArray.mk #[]))) = false →
     ∃ s10 : ByteArray, Fn Tryz.prog 162 [.one (.fz (.str (bytesOf X))), .one (.fz (.str (ByteArray.mk #[48])))] [] (.one (.fz (.str s10))) [] ∧
      (decide ((576 : Int) < ((ByteArray.size s10 : Nat) : Int)) = true → R ptBad []) ∧
      (decide ((576 : Int) < ((ByteArray.size s10 : Nat) : Int)) = false → num_Parse_L0 R s10 m ((ByteArray.size s10 : Nat) : Int) ([] : List (List FV))))) := by
 have e0 : (ByteArray.toList (bytesOf X) == ByteArray.toList (ByteArray.mk #[])) = decide (X = []) := eq_bytes (m := []) hX Bytes.nil
 rw [e0, dec_t, dec_f]
 refine ⟨fun h => ?_, fun hne => ⟨_, Trim_fn (bytesOf X) _ (by rw [size_of]; omega) (by decide) (by decide +kernel), ?_⟩⟩
 ·subst h
  rw [ptT_bad rfl] at hR; exact hR
 ·rw [trim_test hX, not_t, not_f]
  refine ⟨fun h => ?_, fun h => ⟨_, TrimLeft_fn (bytesOf X) 48 (by decide), ?_⟩⟩
  ·rw [ptT_bad (by unfold okX; rw [h, Bool.and_false])] at hR; exact hR
  ·obtain ⟨hL, hd⟩ := pt_dig h
   have hok : okX X = true := by unfold okX; rw [h]; simpa using hne
   rw [hd, cutB _ hL]
   have hsz := tb_size ((X.map (· - 48)).dropWhile (· == 0))
   unfold tb at hsz
   have hc := cut_digs hL
   have hv0 := bv_nonneg _ hL
   have hcut := bv_cut (X.map (· - 48))
   rw [hsz, dec_t, dec_f]
   refine ⟨fun hl => ?_, fun hl => ?_⟩
   ·have hb : mkB (vX X) = false := by
     unfold mkB vX
     rw [if_pos (by omega)]
    rw [ptT_large hb] at hR; exact hR
   ·have hb : mkB (vX X) = true := by
     unfold mkB vX
     rw [if_neg (by omega)]
    have hv0' : 0 ≤ vX X := hv0
    obtain ⟨h1, h2, h3⟩ := (mk_out m (vX X) hv0').1 hb
    refine parse_loop m _ (cut_lim hL) (by omega) R (if m = true then - vX X else vX X) (by rw [hcut]; rfl) ?_ _ _ _ [] (Nat.le_refl _) (Nat.le_refl _) (.inl rfl) (by simp) (Lim.nil _) ?_
    ·rw [h1, h2, h3]
     unfold ptT ptS ptL ptB at hR
     rw [if_pos hok, if_pos hok, if_pos hok, hb] at hR
     exact hR
    ·rw [List.take_length]
     show 0 + 1000000000 ^ 0 * _ = _
     rw [Int.pow_zero]; omega
def pNeg (T : List Int) : Bool := decide (T.head? = some 45)
def pRest (T : List Int) : List Int := if T.head? = some 45 ∨ T.head? = some 43 then T.tail else T
theorem trimP (T : List Int) (hT : Bytes T) (c : Nat) (hc : c < 256) : (⟨(Lib.trimPrefix (bytesOf T).data.toList [UInt8.ofNat c]).toArray⟩ : ByteArray) = bytesOf (if T.head? = some (c : Int) then T.tail else T) := by
 refine ba_ext ?_
 rw [data_of, data_of]
 unfold Lib.trimPrefix
 cases T with
 | nil => rfl
 | cons x T =>
  have hx := hT x List.mem_cons_self
  have h3 := u8_back hx.1 hx.2
  have hcc : (UInt8.ofNat c).toNat = c := by rw [UInt8.toNat_ofNat']; omega
  have : Lib.hasPrefix ((x :: T).map fun n => UInt8.ofNat n.toNat) [UInt8.ofNat c] = decide (x = (c : Int)) := by
   unfold Lib.hasPrefix
   rw [Bool.eq_iff_iff]
   simp [← UInt8.toNat_inj]
   omega
  rw [this]
  by_cases h : x = (c : Int)
  ·simp [h]
  ·simp [h]
theorem parse_ok (T : List Int) (hT : Bytes T) (hlen : T.length ≤ 140737488355328) : Fn Tryz.prog 137 [.one (.fz (.str (bytesOf T)))] [] (ptT (pNeg T) (pRest T)) [] := by
 refine num_Parse_fn _ ?_
 unfold num_Parse_H
 have hp : ∀ c : Nat, c < 256 → Bytes (if T.head? = some (c : Int) then T.tail else T) := fun c _ => by
  split
  ·exact fun x hx => hT x (List.mem_of_mem_tail hx)
  ·exact hT
 have f1 := TrimPrefix_fn (bytesOf T) (ByteArray.mk #[45])
 rw [show (ByteArray.mk #[45]).data.toList = [UInt8.ofNat 45] from rfl, trimP T hT 45 (by omega)] at f1
 refine ⟨_, f1, ?_⟩
 rw [eq_bytes (hp 45 (by omega)) hT]
 by_cases h : T.head? = some 45
 ·have hT1 : (if T.head? = some ((45 : Nat) : Int) then T.tail else T) = T.tail := if_pos h
  have hne : ¬ T.tail = T := by
   intro h2
   cases T with
   | nil => cases h
   | cons x T =>
    have := congrArg List.length h2
    simp at this
  rw [hT1, decide_eq_false hne]
  have e1 : pNeg T = true := decide_eq_true h
  have e2 : pRest T = T.tail := if_pos (.inl h)
  rw [e1, e2]
  refine ⟨fun h => (by cases h), fun _ => ?_⟩
  exact parse_tail true T.tail (fun x hx => hT x (List.mem_of_mem_tail hx)) (by rw [List.length_tail]; omega) (fun r' h' => r' = ptT true T.tail ∧ h' = []) ⟨rfl, rfl⟩
 ·have hT1 : (if T.head? = some ((45 : Nat) : Int) then T.tail else T) = T := if_neg h
  rw [hT1, decide_eq_true rfl]
  refine ⟨fun _ => ?_, fun h => (by cases h)⟩
  have f2 := TrimPrefix_fn (bytesOf T) (ByteArray.mk #[43])
  rw [show (ByteArray.mk #[43]).data.toList = [UInt8.ofNat 43] from rfl, trimP T hT 43 (by omega)] at f2
  refine ⟨_, f2, ?_⟩
  have e1 : pNeg T = false := decide_eq_false h
  have e2 : pRest T = (if T.head? = some ((43 : Nat) : Int) then T.tail else T) := by
   unfold pRest
   by_cases h2 : T.head? = some 43
   ·rw [if_pos (.inr h2)]; exact (if_pos h2).symm
   ·rw [if_neg (fun hh => hh.elim h h2)]; exact (if_neg h2).symm
  rw [e1, e2]
  refine parse_tail false _ (hp 43 (by omega)) ?_ (fun r' h' => r' = ptT false (if T.head? = some ((43 : Nat) : Int) then T.tail else T) ∧ h' = []) ⟨rfl, rfl⟩
  split
  ·rw [List.length_tail]; omega
  ·exact hlen
end Go.Proofs.YtenkkekooimpjaaGreatDoor.Ev
end
section
set_option linter.unusedVariables false
set_option linter.unusedSimpArgs false
namespace Go.Proofs.YtenkkekooimpjaaGreatDoor.Ev
open Go
theorem byte_at {T : List Int} (hT : Bytes T) {i : Nat} (h : i < T.length) : ∃ c : UInt8, (ByteArray.data (bytesOf T))[i]? = some c ∧ ((c.toNat : Nat) : Int) = rd T i :=
 (ex_byte hT (Q := fun n => n = rd T i)).2 ⟨h, rfl⟩
theorem rparse_loop (T : List Int) (hT : Bytes T) (hlen : T.length ≤ 140737488355328) (f : Nat) (hf1 : f ≤ 1) (hf : f < T.length) (R : TV → List Ob → Prop) (hR : R (ptT (decide (rd T 0 = 45)) (T.drop f)) []) :
  ∀ k : Nat, f + k ≤ T.length → (T.drop (f + k)).all (fun c => decide (48 ≤ c ∧ c ≤ 57)) = true → ref01_Parse_L0 R (bytesOf T) f ((f + k : Nat) - 1 : Int) (ints .u8 ((T.drop (f + k)).map (· - 48)).reverse)
 | 0, hk, h => by
  refine ref01_Parse_l0 ?_
  unfold ref01_Parse_R0
  rw [Nat.add_zero] at h ⊢
  simp only [ints_len, ints_app, ints_snoc, ints_take, ints_drop, ints_set, ints_rep, ints_one, ex_rd, dec_t, dec_f, beq_t, beq_f, bne_t, bne_f, not_t, not_f, List.length_set, List.length_append, List.length_cons, List.length_nil, List.length_take, List.length_drop, List.length_replicate, Int.toNat_natCast, List.nil_append, Bool.not_true, Bool.not_false, Wk_nil, Wk_cons, wk1_same, wk1_f, and_true, true_and, Bool.false_eq_true, Bool.true_eq_false, false_implies, forall_const, ex_byte hT, Int.toNat_zero]
  obtain ⟨c0, hc0, hcn⟩ : ∃ c : UInt8, (ByteArray.data (bytesOf T))[0]? = some c ∧ ((c.toNat : Nat) : Int) = rd T 0 := (ex_byte hT (Q := fun n => n = rd T 0)).2 ⟨by omega, rfl⟩
  refine ⟨fun h => by omega, fun _ => ⟨by omega, c0, hc0, ?_⟩⟩
  rw [hcn]
  have hok : okX (T.drop f) = true := by
   unfold okX
   rw [h, Bool.and_true, decide_eq_true_eq]
   intro h0
   have := congrArg List.length h0
   rw [List.length_drop] at this
   simp at this; omega
  obtain ⟨hL, _⟩ := pt_dig h
  have hL' : Lim 10 ((T.drop f).map (· - 48)).reverse := fun x hx => hL x (by simpa using hx)
  have hm := make_ok (rd T 0 == 45) _ (by simp; omega) hL'
  have hv : val 10 ((T.drop f).map (· - 48)).reverse = vX (T.drop f) := by
   have := bv_val ((T.drop f).map (· - 48)).reverse
   rw [List.reverse_reverse] at this
   exact this.symm
  rw [hv] at hm
  refine ⟨_, _, _, hm, ?_⟩
  unfold ptT ptS ptL ptB at hR
  rw [if_pos hok, if_pos hok, if_pos hok] at hR
  have e : (rd T 0 == 45) = decide (rd T 0 = 45) := by rw [Bool.eq_iff_iff]; simp
  rw [e]
  exact hR
 | k + 1, hk, h => by
  refine ref01_Parse_l0 ?_
  unfold ref01_Parse_R0
  have e : ((f + (k + 1) : Nat) : Int) - 1 = ((f + k : Nat) : Int) := by omega
  rw [e]
  have hsplit : T.drop (f + k) = rd T (f + k) :: T.drop (f + (k + 1)) := by
   rw [rd_at T (f + k) (by omega)]
   exact List.drop_eq_getElem_cons (by omega)
  have bad : ¬ (48 ≤ rd T (f + k) ∧ rd T (f + k) ≤ 57) → R ptBad [] := by
   intro hc
   have : okX (T.drop f) = false := by
    unfold okX
    rw [Bool.and_eq_false_iff]
    refine .inr ?_
    rw [Bool.eq_false_iff]
    intro hall
    rw [List.all_eq_true] at hall
    have := hall (rd T (f + k)) (by
     have h1 : T.drop (f + k) = (T.drop f).drop k := by rw [List.drop_drop]
     rw [h1] at hsplit
     exact List.mem_of_mem_drop (by rw [hsplit]; exact List.mem_cons_self))
    exact hc (by simpa using this)
   rw [ptT_bad this] at hR; exact hR
  obtain ⟨c, hc0, hcn⟩ := byte_at hT (show f + k < T.length by omega)
  simp only [dec_t, dec_f, Int.toNat_natCast]
  refine ⟨fun _ => ⟨by omega, c, hc0, fun hc => bad (by omega), fun hc => ⟨by omega, c, hc0, fun hc2 => bad (by omega), fun hc2 => ⟨by omega, c, hc0, ?_, ?_⟩⟩⟩, fun h => by omega⟩
  ·rw [ints_len]; simp; omega
  ·rw [hcn, ints_snoc]
   rw [hcn] at hc hc2
   have e2 : IntKind.wrap .i64 (((f + k : Nat) : Int) - 1) = ((f + k : Nat) : Int) - 1 := w64 (by omega) (by omega)
   have e3 : IntKind.wrap .u8 (rd T (f + k) - 48) = rd T (f + k) - 48 := wu8 (by omega) (by omega)
   have ih := rparse_loop T hT hlen f hf1 hf R hR k (by omega) (by rw [hsplit, List.all_cons, h, Bool.and_true]; simp; omega)
   rw [e2, e3]
   rw [hsplit, List.map_cons, List.reverse_cons] at ih
   exact ih
theorem rparse_ok (T : List Int) (hT : Bytes T) (hlen : T.length ≤ 140737488355328) : Fn Tryz.prog 106 [.one (.fz (.str (bytesOf T)))] [] (ptT (pNeg T) (pRest T)) [] := by
 refine ref01_Parse_fn _ ?_
 unfold ref01_Parse_H
 have go : ∀ f : Nat, f ≤ 1 → f < T.length → (decide (rd T 0 = 45)) = pNeg T → T.drop f = pRest T → ref01_Parse_L0 (fun r' h' => r' = ptT (pNeg T) (pRest T) ∧ h' = []) (bytesOf T) f ((T.length : Int) - 1) ([] : List (List FV)) := by
  intro f hf1 hf h1 h2
  have := rparse_loop T hT hlen f hf1 hf (fun r' h' => r' = ptT (pNeg T) (pRest T) ∧ h' = []) ⟨by rw [h1, h2], rfl⟩ (T.length - f) (by omega) (by rw [show f + (T.length - f) = T.length by omega, List.drop_length]; rfl)
  rw [show f + (T.length - f) = T.length by omega, List.drop_length] at this
  exact this
 cases T with
 | nil =>
  rw [size_of, List.length_nil]
  refine ⟨fun h => (by cases h), fun _ => ⟨fun _ => ⟨(ptT_bad rfl).symm, rfl⟩, fun h => (by cases h)⟩⟩
 | cons x X =>
  have hneg : (decide (rd (x :: X) 0 = 45)) = pNeg (x :: X) := by
   unfold pNeg
   simp [rd]
  have ew : IntKind.wrap .i64 (((x :: X).length : Int) - 1) = ((x :: X).length : Int) - 1 := w64 (by omega) (by omega)
  have hr : rd (x :: X) 0 = x := rfl
  have bad : (1 : Int) = ((x :: X).length : Int) → (x = 45 ∨ x = 43) → ptBad = ptT (pNeg (x :: X)) (pRest (x :: X)) := by
   intro h hx
   have hX : X = [] := List.length_eq_zero_iff.1 (by rw [List.length_cons] at h; omega)
   subst hX
   have : pRest [x] = [] := by unfold pRest; rcases hx with rfl | rfl <;> rfl
   rw [this]
   exact (ptT_bad rfl).symm
  obtain ⟨c, hc0, hcn⟩ := byte_at hT (show 0 < (x :: X).length by simp)
  rw [hr] at hcn
  simp only [size_of, Int.toNat_zero, dec_t, dec_f, beq_t, beq_f, ew]
  have hz : 0 < (x :: X).length := by simp
  refine ⟨fun _ => ⟨by omega, c, hc0, fun h45 => ⟨fun h => ⟨bad h (.inl (by omega)), trivial⟩, fun h => ?_⟩, fun h45 => ⟨by omega, c, hc0, fun h43 => ⟨fun h => ⟨bad h (.inr (by omega)), trivial⟩, fun h => ?_⟩, fun h43 => ⟨fun h => ?_, fun h => ?_⟩⟩⟩, fun h => ?_⟩
  ·refine go 1 (by omega) (by omega) hneg ?_
   unfold pRest; rw [if_pos (.inl (by rw [List.head?_cons, ← hcn, h45]))]; rfl
  ·refine go 1 (by omega) (by omega) hneg ?_
   unfold pRest; rw [if_pos (.inr (by rw [List.head?_cons, ← hcn, h43]))]; rfl
  ·omega
  ·refine go 0 (by omega) (by omega) hneg ?_
   unfold pRest
   rw [if_neg (by simp; omega)]; rfl
  ·omega
end Go.Proofs.YtenkkekooimpjaaGreatDoor.Ev
end
section
set_option linter.unusedVariables false
set_option maxRecDepth 100000
namespace Go.Proofs.YtenkkekooimpjaaGreatDoor.Ev
open Go
def read_Sound_lv : List Nat → Keep := lvOf []
def read_Sound_H (R : TV → List Ob → Prop) (d0 : Int) (d1 : ByteArray) (d2 : Bool) (d3 : List (List FV)) (d4 : List (List FV)) (d5 : Int) : Prop :=
 (∃ n1 : Int, ((Fn Tryz.prog 51 [(TV.agg [(AV.fz (FV.int .i64 d0)), (AV.fz (FV.str d1)), (AV.fz (FV.bool d2)), (AV.fz (FV.sl 1 d3)), (AV.fz (FV.sl 6 d4)), (AV.fz (FV.int .i64 d5))]), (TV.one (AV.fz (FV.int .i64 1))), (TV.one (AV.fz (FV.int .i64 8192)))] [] (TV.one (AV.fz (FV.int .i64 n1))) []) ∧ (R (TV.one (AV.fz (FV.bool (decide ((0 : Int) < n1))))) [])))
theorem read_Sound_fn (d0 : Int) (d1 : ByteArray) (d2 : Bool) (d3 : LL) (d4 : LL) (d5 : Int) {r : TV} {h : List Ob} (H : read_Sound_H (fun r' h' => r' = r ∧ h' = h) d0 d1 d2 d3 d4 d5) : Fn Tryz.prog 26 [(TV.agg [(AV.fz (FV.int .i64 d0)), (AV.fz (FV.str d1)), (AV.fz (FV.bool d2)), (AV.fz (FV.sl 1 d3)), (AV.fz (FV.sl 6 d4)), (AV.fz (FV.int .i64 d5))])] [] r h :=
 Fn.by_tr (M := (modeOf [] [])) (lv := read_Sound_lv) (own := none) (F := Tryz.f26) (by kernel_rfl) (by kernel_rfl) (by first | decide | simp) (fun _ _ h => h) (by kernel_rfl) H
def read_measure_lv : List Nat → Keep := lvOf [([0, 1, 0, 1, 1, 1, 1], ⟨1879048334, 0, [], false, false⟩)]
def read_measure_S0 (d0 : Int) (d1 : ByteArray) (d2 : Bool) (d3 : LL) (d4 : LL) (d5 : Int) (depth : Int) (room : Int) (n5 : Int) (i : Int) : St := (St.mk [TV.und, (TV.one (AV.fz (FV.int .i64 depth))), (TV.one (AV.fz (FV.int .i64 room))), (TV.one (AV.ptr 0 0 0 0)), TV.und, TV.und, TV.und, (TV.one (AV.fz (FV.int .i64 n5))), TV.und, TV.und, TV.und, TV.und, TV.und, TV.und, TV.und, TV.und, TV.und, TV.und, TV.und, TV.und, TV.und, TV.und, TV.und, TV.und, TV.und, TV.und, TV.und, TV.und, (TV.one (AV.fz (FV.sl 6 d4))), (TV.one (AV.fz (FV.int .i64 (((List.length d4) : Nat) : Int)))), (TV.one (AV.fz (FV.int .i64 i))), TV.und, TV.und, TV.und, TV.und, TV.und, TV.und, TV.und, TV.und, TV.und, TV.und, TV.und, TV.und, TV.und, TV.und, TV.und, TV.und, TV.und, TV.und, TV.und, TV.und, TV.und, TV.und, TV.und, TV.und, TV.und, TV.und, TV.und, TV.und, TV.und, TV.und, TV.und, TV.und, TV.und, TV.und, TV.und, TV.und, TV.und, TV.und, TV.und, TV.und, TV.und, TV.und] [(Ob.g 33 [(AV.fz (FV.int .i64 d0)), (AV.fz (FV.str d1)), (AV.fz (FV.bool d2)), (AV.fz (FV.sl 1 d3)), (AV.fz (FV.sl 6 d4)), (AV.fz (FV.int .i64 d5))])])
def read_measure_L0 (R : TV → List Ob → Prop) (d0 : Int) (d1 : ByteArray) (d2 : Bool) (d3 : LL) (d4 : LL) (d5 : Int) (depth : Int) (room : Int) (n5 : Int) (i : Int) : Prop := LoopAt Tryz.prog (modeOf [] []) read_measure_lv Tryz.f51 none R [1, 1, 1, 1, 0, 1, 0] (read_measure_S0 d0 d1 d2 d3 d4 d5 depth room n5 i)
def read_measure_R0 (R : TV → List Ob → Prop) (d0 : Int) (d1 : ByteArray) (d2 : Bool) (d3 : LL) (d4 : LL) (d5 : Int) (depth : Int) (room : Int) (n5 : Int) (i : Int) : Prop :=
 ((((decide (i < (((List.length d4) : Nat) : Int))) = true) → (((0 : Int) ≤ i) ∧ (∃ n11 : Int, (∃ s4 : ByteArray, (∃ b7 : Bool, (∃ es8 : LL, (∃ es9 : LL, (∃ n12 : Int, (((d4)[(Int.toNat i)]? = (some [(FV.int .i64 n11), (FV.str s4), (FV.bool b7), (FV.sl 1 es8), (FV.sl 6 es9), (FV.int .i64 n12)])) ∧ (∃ n13 : Int, ((Fn Tryz.prog 51 [(TV.agg [(AV.fz (FV.int .i64 n11)), (AV.fz (FV.str s4)), (AV.fz (FV.bool b7)), (AV.fz (FV.sl 1 es8)), (AV.fz (FV.sl 6 es9)), (AV.fz (FV.int .i64 n12))]), (TV.one (AV.fz (FV.int .i64 (IntKind.wrap .i64 (depth + 1))))), (TV.one (AV.fz (FV.int .i64 (IntKind.wrap .i64 (room - n5)))))] [] (TV.one (AV.fz (FV.int .i64 n13))) []) ∧ ((((decide (n13 < 0)) = true) → (R (TV.one (AV.fz (FV.int .i64 (-1)))) [])) ∧ (((decide (n13 < 0)) = false) → (read_measure_L0 R d0 d1 d2 d3 d4 d5 depth room (IntKind.wrap .i64 (n5 + n13)) (IntKind.wrap .i64 (i + 1)))))))))))))))) ∧ (((decide (i < (((List.length d4) : Nat) : Int))) = false) → (∃ b8 : Bool, ((Fn Tryz.prog 82 [(TV.agg [(AV.fz (FV.int .i64 d0)), (AV.fz (FV.str d1)), (AV.fz (FV.bool d2)), (AV.fz (FV.sl 1 d3)), (AV.fz (FV.sl 6 d4)), (AV.fz (FV.int .i64 d5))]), (TV.one (AV.fz (FV.bool false))), (TV.one (AV.fz (FV.bool false))), (TV.one (AV.fz (FV.bool true)))] [] (TV.one (AV.fz (FV.bool b8))) []) ∧ ((((Bool.not b8) = true) → (R (TV.one (AV.fz (FV.int .i64 (-1)))) [])) ∧ (((Bool.not b8) = false) → ((((d0 == 2) = true) → ((((decide ((((List.length d4) : Nat) : Int) < 2)) = true) → (R (TV.one (AV.fz (FV.int .i64 (-1)))) [])) ∧ (((decide ((((List.length d4) : Nat) : Int) < 2)) = false) → (((0 : Int) ≤ (IntKind.wrap .i64 ((((List.length d4) : Nat) : Int) - 1))) ∧ (∃ n14 : Int, (∃ s5 : ByteArray, (∃ b9 : Bool, (∃ es10 : LL, (∃ es11 : LL, (∃ n15 : Int, (((d4)[(Int.toNat (IntKind.wrap .i64 ((((List.length d4) : Nat) : Int) - 1)))]? = (some [(FV.int .i64 n14), (FV.str s5), (FV.bool b9), (FV.sl 1 es10), (FV.sl 6 es11), (FV.int .i64 n15)])) ∧ ((((n14 == 1) = true) → (R (TV.one (AV.fz (FV.int .i64 (-1)))) [])) ∧ (((n14 == 1) = false) → ((((n14 == 2) = true) → (R (TV.one (AV.fz (FV.int .i64 (-1)))) [])) ∧ (((n14 == 2) = false) → (R (TV.one (AV.fz (FV.int .i64 n5))) [])))))))))))))))) ∧ (((d0 == 2) = false) → (R (TV.one (AV.fz (FV.int .i64 n5))) [])))))))))
theorem read_measure_l0 {R : TV → List Ob → Prop} {d0 : Int} {d1 : ByteArray} {d2 : Bool} {d3 : LL} {d4 : LL} {d5 : Int} {depth : Int} {room : Int} {n5 : Int} {i : Int} (h : read_measure_R0 R d0 d1 d2 d3 d4 d5 depth room n5 i) : read_measure_L0 R d0 d1 d2 d3 d4 d5 depth room n5 i :=
 LoopAt.by_tr (by kernel_rfl) (by kernel_rfl) h
def read_measure_H (R : TV → List Ob → Prop) (d0 : Int) (d1 : ByteArray) (d2 : Bool) (d3 : LL) (d4 : LL) (d5 : Int) (depth : Int) (room : Int) : Prop :=
 ((((decide ((64 : Int) < depth)) = true) → (R (TV.one (AV.fz (FV.int .i64 (-1)))) [])) ∧ (((decide ((64 : Int) < depth)) = false) → ((((decide (room < 1)) = true) → (R (TV.one (AV.fz (FV.int .i64 (-1)))) [])) ∧ (((decide (room < 1)) = false) → ((((d0 == 1) = true) → (read_measure_L0 R d0 d1 d2 d3 d4 d5 depth room 1 0)) ∧ (((d0 == 1) = false) → ((((d0 == 3) = true) → (read_measure_L0 R d0 d1 d2 d3 d4 d5 depth room 1 0)) ∧ (((d0 == 3) = false) → ((((d0 == 2) = true) → (read_measure_L0 R d0 d1 d2 d3 d4 d5 depth room 1 0)) ∧ (((d0 == 2) = false) → (∃ b7 : Bool, ((Fn Tryz.prog 81 [(TV.agg [(AV.fz (FV.int .i64 d0)), (AV.fz (FV.str d1)), (AV.fz (FV.bool d2)), (AV.fz (FV.sl 1 d3)), (AV.fz (FV.sl 6 d4)), (AV.fz (FV.int .i64 d5))])] [] (TV.one (AV.fz (FV.bool b7))) []) ∧ ((((Bool.not b7) = true) → (R (TV.one (AV.fz (FV.int .i64 (-1)))) [])) ∧ (((Bool.not b7) = false) → (R (TV.one (AV.fz (FV.int .i64 1))) [])))))))))))))))
theorem read_measure_fn (d0 : Int) (d1 : ByteArray) (d2 : Bool) (d3 : LL) (d4 : LL) (d5 : Int) (depth : Int) (room : Int) {r : TV} {h : List Ob} (H : read_measure_H (fun r' h' => r' = r ∧ h' = h) d0 d1 d2 d3 d4 d5 depth room) : Fn Tryz.prog 51 [(TV.agg [(AV.fz (FV.int .i64 d0)), (AV.fz (FV.str d1)), (AV.fz (FV.bool d2)), (AV.fz (FV.sl 1 d3)), (AV.fz (FV.sl 6 d4)), (AV.fz (FV.int .i64 d5))]), (TV.one (AV.fz (FV.int .i64 depth))), (TV.one (AV.fz (FV.int .i64 room)))] [] r h :=
 Fn.by_tr (M := (modeOf [] [])) (lv := read_measure_lv) (own := none) (F := Tryz.f51) (by kernel_rfl) (by kernel_rfl) (by first | decide | simp) (fun _ _ h => h) (by kernel_rfl) H
def read_leaf_lv : List Nat → Keep := lvOf []
def read_leaf_H (R : TV → List Ob → Prop) (d0 : Int) (d1 : ByteArray) (d2 : Bool) (d3 : List (List FV)) (d4 : List (List FV)) (d5 : Int) : Prop :=
 ((((d0 == 4) = true) → (∃ n4 : Int, (∃ s1 : ByteArray, (∃ b11 : Bool, (∃ es2 : LL, (∃ es3 : LL, (∃ n5 : Int, (∃ b12 : Bool, ((Fn Tryz.prog 110 [(TV.one (AV.fz (FV.str d1)))] [] (TV.tup [(true, [(AV.fz (FV.int .i64 n4)), (AV.fz (FV.str s1)), (AV.fz (FV.bool b11)), (AV.fz (FV.sl 1 es2)), (AV.fz (FV.sl 6 es3)), (AV.fz (FV.int .i64 n5))]), (false, [(AV.fz (FV.bool b12))])]) []) ∧ (((b12 = true) → ((((n4 == 4) = true) → (∃ b13 : Bool, ((Fn Tryz.prog 82 [(TV.agg [(AV.fz (FV.int .i64 d0)), (AV.fz (FV.str d1)), (AV.fz (FV.bool d2)), (AV.fz (FV.sl 1 d3)), (AV.fz (FV.sl 6 d4)), (AV.fz (FV.int .i64 d5))]), (TV.one (AV.fz (FV.bool true))), (TV.one (AV.fz (FV.bool false))), (TV.one (AV.fz (FV.bool false)))] [] (TV.one (AV.fz (FV.bool b13))) []) ∧ (R (TV.one (AV.fz (FV.bool b13))) [])))) ∧ (((n4 == 4) = false) → (R (TV.one (AV.fz (FV.bool false))) [])))) ∧ ((b12 = false) → (R (TV.one (AV.fz (FV.bool false))) [])))))))))))) ∧ (((d0 == 4) = false) → ((((d0 == 5) = true) → (∃ n6 : Int, ((Fn Tryz.prog 111 [(TV.one (AV.fz (FV.str d1)))] [] (TV.one (AV.fz (FV.int .i64 n6))) []) ∧ ((((decide ((0 : Int) ≤ n6)) = true) → ((((decide (n6 ≤ 4096)) = true) → (∃ b14 : Bool, ((Fn Tryz.prog 82 [(TV.agg [(AV.fz (FV.int .i64 d0)), (AV.fz (FV.str d1)), (AV.fz (FV.bool d2)), (AV.fz (FV.sl 1 d3)), (AV.fz (FV.sl 6 d4)), (AV.fz (FV.int .i64 d5))]), (TV.one (AV.fz (FV.bool true))), (TV.one (AV.fz (FV.bool false))), (TV.one (AV.fz (FV.bool false)))] [] (TV.one (AV.fz (FV.bool b14))) []) ∧ (R (TV.one (AV.fz (FV.bool b14))) [])))) ∧ (((decide (n6 ≤ 4096)) = false) → (R (TV.one (AV.fz (FV.bool false))) [])))) ∧ (((decide ((0 : Int) ≤ n6)) = false) → (R (TV.one (AV.fz (FV.bool false))) [])))))) ∧ (((d0 == 5) = false) → ((((d0 == 6) = true) → (∃ n7 : Int, ((Fn Tryz.prog 111 [(TV.one (AV.fz (FV.str d1)))] [] (TV.one (AV.fz (FV.int .i64 n7))) []) ∧ ((((n7 == 1) = true) → (∃ b15 : Bool, ((Fn Tryz.prog 82 [(TV.agg [(AV.fz (FV.int .i64 d0)), (AV.fz (FV.str d1)), (AV.fz (FV.bool d2)), (AV.fz (FV.sl 1 d3)), (AV.fz (FV.sl 6 d4)), (AV.fz (FV.int .i64 d5))]), (TV.one (AV.fz (FV.bool true))), (TV.one (AV.fz (FV.bool false))), (TV.one (AV.fz (FV.bool false)))] [] (TV.one (AV.fz (FV.bool b15))) []) ∧ (R (TV.one (AV.fz (FV.bool b15))) [])))) ∧ (((n7 == 1) = false) → (R (TV.one (AV.fz (FV.bool false))) [])))))) ∧ (((d0 == 6) = false) → ((((d0 == 7) = true) → (∃ b16 : Bool, ((Fn Tryz.prog 112 [(TV.agg [(AV.fz (FV.bool d2)), (AV.fz (FV.sl 1 d3))])] [] (TV.one (AV.fz (FV.bool b16))) []) ∧ (((b16 = true) → (∃ b17 : Bool, ((Fn Tryz.prog 82 [(TV.agg [(AV.fz (FV.int .i64 d0)), (AV.fz (FV.str d1)), (AV.fz (FV.bool d2)), (AV.fz (FV.sl 1 d3)), (AV.fz (FV.sl 6 d4)), (AV.fz (FV.int .i64 d5))]), (TV.one (AV.fz (FV.bool false))), (TV.one (AV.fz (FV.bool true))), (TV.one (AV.fz (FV.bool false)))] [] (TV.one (AV.fz (FV.bool b17))) []) ∧ (R (TV.one (AV.fz (FV.bool b17))) [])))) ∧ ((b16 = false) → (R (TV.one (AV.fz (FV.bool false))) [])))))) ∧ (((d0 == 7) = false) → ((((d0 == 11) = true) → (∃ b18 : Bool, ((Fn Tryz.prog 82 [(TV.agg [(AV.fz (FV.int .i64 d0)), (AV.fz (FV.str d1)), (AV.fz (FV.bool d2)), (AV.fz (FV.sl 1 d3)), (AV.fz (FV.sl 6 d4)), (AV.fz (FV.int .i64 d5))]), (TV.one (AV.fz (FV.bool true))), (TV.one (AV.fz (FV.bool false))), (TV.one (AV.fz (FV.bool false)))] [] (TV.one (AV.fz (FV.bool b18))) []) ∧ (R (TV.one (AV.fz (FV.bool b18))) [])))) ∧ (((d0 == 11) = false) → ((((d0 == 8) = true) → (∃ b19 : Bool, ((Fn Tryz.prog 82 [(TV.agg [(AV.fz (FV.int .i64 d0)), (AV.fz (FV.str d1)), (AV.fz (FV.bool d2)), (AV.fz (FV.sl 1 d3)), (AV.fz (FV.sl 6 d4)), (AV.fz (FV.int .i64 d5))]), (TV.one (AV.fz (FV.bool false))), (TV.one (AV.fz (FV.bool false))), (TV.one (AV.fz (FV.bool false)))] [] (TV.one (AV.fz (FV.bool b19))) []) ∧ (R (TV.one (AV.fz (FV.bool b19))) [])))) ∧ (((d0 == 8) = false) → ((((d0 == 9) = true) → (∃ b20 : Bool, ((Fn Tryz.prog 82 [(TV.agg [(AV.fz (FV.int .i64 d0)), (AV.fz (FV.str d1)), (AV.fz (FV.bool d2)), (AV.fz (FV.sl 1 d3)), (AV.fz (FV.sl 6 d4)), (AV.fz (FV.int .i64 d5))]), (TV.one (AV.fz (FV.bool false))), (TV.one (AV.fz (FV.bool false))), (TV.one (AV.fz (FV.bool false)))] [] (TV.one (AV.fz (FV.bool b20))) []) ∧ (R (TV.one (AV.fz (FV.bool b20))) [])))) ∧ (((d0 == 9) = false) → ((((d0 == 10) = true) → (∃ b21 : Bool, ((Fn Tryz.prog 82 [(TV.agg [(AV.fz (FV.int .i64 d0)), (AV.fz (FV.str d1)), (AV.fz (FV.bool d2)), (AV.fz (FV.sl 1 d3)), (AV.fz (FV.sl 6 d4)), (AV.fz (FV.int .i64 d5))]), (TV.one (AV.fz (FV.bool false))), (TV.one (AV.fz (FV.bool false))), (TV.one (AV.fz (FV.bool false)))] [] (TV.one (AV.fz (FV.bool b21))) []) ∧ (R (TV.one (AV.fz (FV.bool b21))) [])))) ∧ (((d0 == 10) = false) → (R (TV.one (AV.fz (FV.bool false))) [])))))))))))))))))
theorem read_leaf_fn (d0 : Int) (d1 : ByteArray) (d2 : Bool) (d3 : LL) (d4 : LL) (d5 : Int) {r : TV} {h : List Ob} (H : read_leaf_H (fun r' h' => r' = r ∧ h' = h) d0 d1 d2 d3 d4 d5) : Fn Tryz.prog 81 [(TV.agg [(AV.fz (FV.int .i64 d0)), (AV.fz (FV.str d1)), (AV.fz (FV.bool d2)), (AV.fz (FV.sl 1 d3)), (AV.fz (FV.sl 6 d4)), (AV.fz (FV.int .i64 d5))])] [] r h :=
 Fn.by_tr (M := (modeOf [] [])) (lv := read_leaf_lv) (own := none) (F := Tryz.f81) (by kernel_rfl) (by kernel_rfl) (by first | decide | simp) (fun _ _ h => h) (by kernel_rfl) H
def read_plain_lv : List Nat → Keep := lvOf []
def read_plain_H (R : TV → List Ob → Prop) (d0 : Int) (d1 : ByteArray) (d2 : Bool) (d3 : LL) (d4 : LL) (d5 : Int) (text : Bool) (number : Bool) (list : Bool) : Prop :=
 ((((Bool.not d2) = true) → (((text = true) → (((number = true) → (((list = true) → (R (TV.one (AV.fz (FV.bool true))) [])) ∧ ((list = false) → (R (TV.one (AV.fz (FV.bool ((((List.length d4) : Nat) : Int) == 0)))) [])))) ∧ ((number = false) → (((((((List.length d3) : Nat) : Int) == 0) = true) → (((list = true) → (R (TV.one (AV.fz (FV.bool true))) [])) ∧ ((list = false) → (R (TV.one (AV.fz (FV.bool ((((List.length d4) : Nat) : Int) == 0)))) [])))) ∧ ((((((List.length d3) : Nat) : Int) == 0) = false) → (R (TV.one (AV.fz (FV.bool false))) [])))))) ∧ ((text = false) → (((((ByteArray.toList d1) == (ByteArray.toList (ByteArray.mk #[]))) = true) → (((number = true) → (((list = true) → (R (TV.one (AV.fz (FV.bool true))) [])) ∧ ((list = false) → (R (TV.one (AV.fz (FV.bool ((((List.length d4) : Nat) : Int) == 0)))) [])))) ∧ ((number = false) → (((((((List.length d3) : Nat) : Int) == 0) = true) → (((list = true) → (R (TV.one (AV.fz (FV.bool true))) [])) ∧ ((list = false) → (R (TV.one (AV.fz (FV.bool ((((List.length d4) : Nat) : Int) == 0)))) [])))) ∧ ((((((List.length d3) : Nat) : Int) == 0) = false) → (R (TV.one (AV.fz (FV.bool false))) [])))))) ∧ ((((ByteArray.toList d1) == (ByteArray.toList (ByteArray.mk #[]))) = false) → (R (TV.one (AV.fz (FV.bool false))) [])))))) ∧ (((Bool.not d2) = false) → (((text = true) → (((number = true) → (((list = true) → (R (TV.one (AV.fz (FV.bool true))) [])) ∧ ((list = false) → (R (TV.one (AV.fz (FV.bool ((((List.length d4) : Nat) : Int) == 0)))) [])))) ∧ ((number = false) → (R (TV.one (AV.fz (FV.bool false))) [])))) ∧ ((text = false) → (((((ByteArray.toList d1) == (ByteArray.toList (ByteArray.mk #[]))) = true) → (((number = true) → (((list = true) → (R (TV.one (AV.fz (FV.bool true))) [])) ∧ ((list = false) → (R (TV.one (AV.fz (FV.bool ((((List.length d4) : Nat) : Int) == 0)))) [])))) ∧ ((number = false) → (R (TV.one (AV.fz (FV.bool false))) [])))) ∧ ((((ByteArray.toList d1) == (ByteArray.toList (ByteArray.mk #[]))) = false) → (R (TV.one (AV.fz (FV.bool false))) [])))))))
theorem read_plain_fn (d0 : Int) (d1 : ByteArray) (d2 : Bool) (d3 : LL) (d4 : LL) (d5 : Int) (text : Bool) (number : Bool) (list : Bool) {r : TV} {h : List Ob} (H : read_plain_H (fun r' h' => r' = r ∧ h' = h) d0 d1 d2 d3 d4 d5 text number list) : Fn Tryz.prog 82 [(TV.agg [(AV.fz (FV.int .i64 d0)), (AV.fz (FV.str d1)), (AV.fz (FV.bool d2)), (AV.fz (FV.sl 1 d3)), (AV.fz (FV.sl 6 d4)), (AV.fz (FV.int .i64 d5))]), (TV.one (AV.fz (FV.bool text))), (TV.one (AV.fz (FV.bool number))), (TV.one (AV.fz (FV.bool list)))] [] r h :=
 Fn.by_tr (M := (modeOf [] [])) (lv := read_plain_lv) (own := none) (F := Tryz.f82) (by kernel_rfl) (by kernel_rfl) (by first | decide | simp) (fun _ _ h => h) (by kernel_rfl) H
def read_chars_lv : List Nat → Keep := lvOf []
def read_chars_H (R : TV → List Ob → Prop) (s : ByteArray) : Prop :=
 (∃ es1 : LL, (∃ n2 : Int, (∃ n3 : Int, ((Fn Tryz.prog 37 [(TV.one (AV.fz (FV.sl 1 (List.map (fun b3 => [(FV.int .u8 (((UInt8.toNat b3) : Nat) : Int))]) (Array.toList (ByteArray.data s))))))] [] (TV.tup [(false, [(AV.fz (FV.sl 1 es1))]), (false, [(AV.fz (FV.int .i64 n2))]), (false, [(AV.fz (FV.int .i64 n3))])]) []) ∧ ((((n3 != 0) = true) → (R (TV.one (AV.fz (FV.int .i64 (-1)))) [])) ∧ (((n3 != 0) = false) → (R (TV.one (AV.fz (FV.int .i64 (((List.length es1) : Nat) : Int)))) [])))))))
theorem read_chars_fn (s : ByteArray) {r : TV} {h : List Ob} (H : read_chars_H (fun r' h' => r' = r ∧ h' = h) s) : Fn Tryz.prog 111 [(TV.one (AV.fz (FV.str s)))] [] r h :=
 Fn.by_tr (M := (modeOf [] [])) (lv := read_chars_lv) (own := none) (F := Tryz.f111) (by kernel_rfl) (by kernel_rfl) (by first | decide | simp) (fun _ _ h => h) (by kernel_rfl) H
def token_Atom_lv : List Nat → Keep := lvOf []
def token_Atom_H (R : TV → List Ob → Prop) (s : ByteArray) : Prop :=
 (((((ByteArray.toList s) == (ByteArray.toList (ByteArray.mk #[35, 116]))) = true) → (R (TV.tup [(true, [(AV.fz (FV.int .i64 8)), (AV.fz (FV.str (ByteArray.mk #[]))), (AV.fz (FV.bool false)), (AV.fz (FV.sl 1 ([] : LL))), (AV.fz (FV.sl 6 ([] : LL))), (AV.fz (FV.int .i64 0))]), (false, [(AV.fz (FV.bool true))])]) [])) ∧ ((((ByteArray.toList s) == (ByteArray.toList (ByteArray.mk #[35, 116]))) = false) → (((((ByteArray.toList s) == (ByteArray.toList (ByteArray.mk #[35, 116, 114, 117, 101]))) = true) → (R (TV.tup [(true, [(AV.fz (FV.int .i64 8)), (AV.fz (FV.str (ByteArray.mk #[]))), (AV.fz (FV.bool false)), (AV.fz (FV.sl 1 ([] : LL))), (AV.fz (FV.sl 6 ([] : LL))), (AV.fz (FV.int .i64 0))]), (false, [(AV.fz (FV.bool true))])]) [])) ∧ ((((ByteArray.toList s) == (ByteArray.toList (ByteArray.mk #[35, 116, 114, 117, 101]))) = false) → (((((ByteArray.toList s) == (ByteArray.toList (ByteArray.mk #[35, 102]))) = true) → (R (TV.tup [(true, [(AV.fz (FV.int .i64 9)), (AV.fz (FV.str (ByteArray.mk #[]))), (AV.fz (FV.bool false)), (AV.fz (FV.sl 1 ([] : LL))), (AV.fz (FV.sl 6 ([] : LL))), (AV.fz (FV.int .i64 0))]), (false, [(AV.fz (FV.bool true))])]) [])) ∧ ((((ByteArray.toList s) == (ByteArray.toList (ByteArray.mk #[35, 102]))) = false) → (((((ByteArray.toList s) == (ByteArray.toList (ByteArray.mk #[35, 102, 97, 108, 115, 101]))) = true) → (R (TV.tup [(true, [(AV.fz (FV.int .i64 9)), (AV.fz (FV.str (ByteArray.mk #[]))), (AV.fz (FV.bool false)), (AV.fz (FV.sl 1 ([] : LL))), (AV.fz (FV.sl 6 ([] : LL))), (AV.fz (FV.int .i64 0))]), (false, [(AV.fz (FV.bool true))])]) [])) ∧ ((((ByteArray.toList s) == (ByteArray.toList (ByteArray.mk #[35, 102, 97, 108, 115, 101]))) = false) → (∃ b12 : Bool, (∃ es2 : LL, (∃ b13 : Bool, ((Fn Tryz.prog 137 [(TV.one (AV.fz (FV.str s)))] [] (TV.tup [(true, [(AV.fz (FV.bool b12)), (AV.fz (FV.sl 1 es2))]), (false, [(AV.fz (FV.bool b13))])]) []) ∧ (((b13 = true) → (R (TV.tup [(true, [(AV.fz (FV.int .i64 7)), (AV.fz (FV.str (ByteArray.mk #[]))), (AV.fz (FV.bool b12)), (AV.fz (FV.sl 1 es2)), (AV.fz (FV.sl 6 ([] : LL))), (AV.fz (FV.int .i64 0))]), (false, [(AV.fz (FV.bool true))])]) [])) ∧ ((b13 = false) → (∃ es3 : LL, (∃ n2 : Int, (∃ n3 : Int, ((Fn Tryz.prog 37 [(TV.one (AV.fz (FV.sl 1 (List.map (fun b15 => [(FV.int .u8 (((UInt8.toNat b15) : Nat) : Int))]) (Array.toList (ByteArray.data s))))))] [] (TV.tup [(false, [(AV.fz (FV.sl 1 es3))]), (false, [(AV.fz (FV.int .i64 n2))]), (false, [(AV.fz (FV.int .i64 n3))])]) []) ∧ (∃ b16 : Bool, ((Fn Tryz.prog 138 [(TV.one (AV.fz (FV.str s))), (TV.one (AV.fz (FV.str (ByteArray.mk #[43]))))] [] (TV.one (AV.fz (FV.bool b16))) []) ∧ (((b16 = true) → (((((ByteArray.toList s) == (ByteArray.toList (ByteArray.mk #[]))) = true) → (R (TV.tup [(true, [(AV.fz (FV.int .i64 0)), (AV.fz (FV.str (ByteArray.mk #[]))), (AV.fz (FV.bool false)), (AV.fz (FV.sl 1 ([] : LL))), (AV.fz (FV.sl 6 ([] : LL))), (AV.fz (FV.int .i64 0))]), (false, [(AV.fz (FV.bool false))])]) [])) ∧ ((((ByteArray.toList s) == (ByteArray.toList (ByteArray.mk #[]))) = false) → (((((ByteArray.toList s) == (ByteArray.toList (ByteArray.mk #[46]))) = true) → (R (TV.tup [(true, [(AV.fz (FV.int .i64 0)), (AV.fz (FV.str (ByteArray.mk #[]))), (AV.fz (FV.bool false)), (AV.fz (FV.sl 1 ([] : LL))), (AV.fz (FV.sl 6 ([] : LL))), (AV.fz (FV.int .i64 0))]), (false, [(AV.fz (FV.bool false))])]) [])) ∧ ((((ByteArray.toList s) == (ByteArray.toList (ByteArray.mk #[46]))) = false) → ((((decide ((64 : Int) < (((ByteArray.size s) : Nat) : Int))) = true) → (R (TV.tup [(true, [(AV.fz (FV.int .i64 0)), (AV.fz (FV.str (ByteArray.mk #[]))), (AV.fz (FV.bool false)), (AV.fz (FV.sl 1 ([] : LL))), (AV.fz (FV.sl 6 ([] : LL))), (AV.fz (FV.int .i64 0))]), (false, [(AV.fz (FV.bool false))])]) [])) ∧ (((decide ((64 : Int) < (((ByteArray.size s) : Nat) : Int))) = false) → ((((n3 != 0) = true) → (R (TV.tup [(true, [(AV.fz (FV.int .i64 0)), (AV.fz (FV.str (ByteArray.mk #[]))), (AV.fz (FV.bool false)), (AV.fz (FV.sl 1 ([] : LL))), (AV.fz (FV.sl 6 ([] : LL))), (AV.fz (FV.int .i64 0))]), (false, [(AV.fz (FV.bool false))])]) [])) ∧ (((n3 != 0) = false) → (∃ b17 : Bool, ((Fn Tryz.prog 55 [(TV.one (AV.fz (FV.sl 1 es3))), (TV.one (AV.fz (FV.fn 104 [])))] [] (TV.one (AV.fz (FV.bool b17))) []) ∧ (((b17 = true) → (R (TV.tup [(true, [(AV.fz (FV.int .i64 0)), (AV.fz (FV.str (ByteArray.mk #[]))), (AV.fz (FV.bool false)), (AV.fz (FV.sl 1 ([] : LL))), (AV.fz (FV.sl 6 ([] : LL))), (AV.fz (FV.int .i64 0))]), (false, [(AV.fz (FV.bool false))])]) [])) ∧ ((b17 = false) → (((0 : Int) ≤ 0) ∧ (∃ c2 : UInt8, ((((ByteArray.data s))[(Int.toNat 0)]? = (some c2)) ∧ (((((((UInt8.toNat c2) : Nat) : Int) == 35) = true) → (R (TV.tup [(true, [(AV.fz (FV.int .i64 0)), (AV.fz (FV.str (ByteArray.mk #[]))), (AV.fz (FV.bool false)), (AV.fz (FV.sl 1 ([] : LL))), (AV.fz (FV.sl 6 ([] : LL))), (AV.fz (FV.int .i64 0))]), (false, [(AV.fz (FV.bool false))])]) [])) ∧ ((((((UInt8.toNat c2) : Nat) : Int) == 35) = false) → (∃ b18 : Bool, ((Fn Tryz.prog 139 [(TV.one (AV.fz (FV.str s))), (TV.one (AV.fz (FV.int .i64 0)))] [] (TV.one (AV.fz (FV.bool b18))) []) ∧ (((b18 = true) → (R (TV.tup [(true, [(AV.fz (FV.int .i64 0)), (AV.fz (FV.str (ByteArray.mk #[]))), (AV.fz (FV.bool false)), (AV.fz (FV.sl 1 ([] : LL))), (AV.fz (FV.sl 6 ([] : LL))), (AV.fz (FV.int .i64 0))]), (false, [(AV.fz (FV.bool false))])]) [])) ∧ ((b18 = false) → (∃ b19 : Bool, ((Fn Tryz.prog 139 [(TV.one (AV.fz (FV.str s))), (TV.one (AV.fz (FV.int .i64 1)))] [] (TV.one (AV.fz (FV.bool b19))) []) ∧ (((b19 = true) → (R (TV.tup [(true, [(AV.fz (FV.int .i64 0)), (AV.fz (FV.str (ByteArray.mk #[]))), (AV.fz (FV.bool false)), (AV.fz (FV.sl 1 ([] : LL))), (AV.fz (FV.sl 6 ([] : LL))), (AV.fz (FV.int .i64 0))]), (false, [(AV.fz (FV.bool false))])]) [])) ∧ ((b19 = false) → (R (TV.tup [(true, [(AV.fz (FV.int .i64 4)), (AV.fz (FV.str s)), (AV.fz (FV.bool false)), (AV.fz (FV.sl 1 ([] : LL))), (AV.fz (FV.sl 6 ([] : LL))), (AV.fz (FV.int .i64 0))]), (false, [(AV.fz (FV.bool true))])]) []))))))))))))))))))))))))))) ∧ ((b16 = false) → (∃ b20 : Bool, ((Fn Tryz.prog 138 [(TV.one (AV.fz (FV.str s))), (TV.one (AV.fz (FV.str (ByteArray.mk #[45]))))] [] (TV.one (AV.fz (FV.bool b20))) []) ∧ (((((ByteArray.toList s) == (ByteArray.toList (ByteArray.mk #[]))) = true) → (R (TV.tup [(true, [(AV.fz (FV.int .i64 0)), (AV.fz (FV.str (ByteArray.mk #[]))), (AV.fz (FV.bool false)), (AV.fz (FV.sl 1 ([] : LL))), (AV.fz (FV.sl 6 ([] : LL))), (AV.fz (FV.int .i64 0))]), (false, [(AV.fz (FV.bool false))])]) [])) ∧ ((((ByteArray.toList s) == (ByteArray.toList (ByteArray.mk #[]))) = false) → (((((ByteArray.toList s) == (ByteArray.toList (ByteArray.mk #[46]))) = true) → (R (TV.tup [(true, [(AV.fz (FV.int .i64 0)), (AV.fz (FV.str (ByteArray.mk #[]))), (AV.fz (FV.bool false)), (AV.fz (FV.sl 1 ([] : LL))), (AV.fz (FV.sl 6 ([] : LL))), (AV.fz (FV.int .i64 0))]), (false, [(AV.fz (FV.bool false))])]) [])) ∧ ((((ByteArray.toList s) == (ByteArray.toList (ByteArray.mk #[46]))) = false) → ((((decide ((64 : Int) < (((ByteArray.size s) : Nat) : Int))) = true) → (R (TV.tup [(true, [(AV.fz (FV.int .i64 0)), (AV.fz (FV.str (ByteArray.mk #[]))), (AV.fz (FV.bool false)), (AV.fz (FV.sl 1 ([] : LL))), (AV.fz (FV.sl 6 ([] : LL))), (AV.fz (FV.int .i64 0))]), (false, [(AV.fz (FV.bool false))])]) [])) ∧ (((decide ((64 : Int) < (((ByteArray.size s) : Nat) : Int))) = false) → ((((n3 != 0) = true) → (R (TV.tup [(true, [(AV.fz (FV.int .i64 0)), (AV.fz (FV.str (ByteArray.mk #[]))), (AV.fz (FV.bool false)), (AV.fz (FV.sl 1 ([] : LL))), (AV.fz (FV.sl 6 ([] : LL))), (AV.fz (FV.int .i64 0))]), (false, [(AV.fz (FV.bool false))])]) [])) ∧ (((n3 != 0) = false) → (∃ b21 : Bool, ((Fn Tryz.prog 55 [(TV.one (AV.fz (FV.sl 1 es3))), (TV.one (AV.fz (FV.fn 104 [])))] [] (TV.one (AV.fz (FV.bool b21))) []) ∧ (((b21 = true) → (R (TV.tup [(true, [(AV.fz (FV.int .i64 0)), (AV.fz (FV.str (ByteArray.mk #[]))), (AV.fz (FV.bool false)), (AV.fz (FV.sl 1 ([] : LL))), (AV.fz (FV.sl 6 ([] : LL))), (AV.fz (FV.int .i64 0))]), (false, [(AV.fz (FV.bool false))])]) [])) ∧ ((b21 = false) → (((0 : Int) ≤ 0) ∧ (∃ c3 : UInt8, ((((ByteArray.data s))[(Int.toNat 0)]? = (some c3)) ∧ (((((((UInt8.toNat c3) : Nat) : Int) == 35) = true) → (R (TV.tup [(true, [(AV.fz (FV.int .i64 0)), (AV.fz (FV.str (ByteArray.mk #[]))), (AV.fz (FV.bool false)), (AV.fz (FV.sl 1 ([] : LL))), (AV.fz (FV.sl 6 ([] : LL))), (AV.fz (FV.int .i64 0))]), (false, [(AV.fz (FV.bool false))])]) [])) ∧ ((((((UInt8.toNat c3) : Nat) : Int) == 35) = false) → (∃ b22 : Bool, ((Fn Tryz.prog 139 [(TV.one (AV.fz (FV.str s))), (TV.one (AV.fz (FV.int .i64 0)))] [] (TV.one (AV.fz (FV.bool b22))) []) ∧ (((b22 = true) → (R (TV.tup [(true, [(AV.fz (FV.int .i64 0)), (AV.fz (FV.str (ByteArray.mk #[]))), (AV.fz (FV.bool false)), (AV.fz (FV.sl 1 ([] : LL))), (AV.fz (FV.sl 6 ([] : LL))), (AV.fz (FV.int .i64 0))]), (false, [(AV.fz (FV.bool false))])]) [])) ∧ ((b22 = false) → (((b20 = true) → (∃ b23 : Bool, ((Fn Tryz.prog 139 [(TV.one (AV.fz (FV.str s))), (TV.one (AV.fz (FV.int .i64 1)))] [] (TV.one (AV.fz (FV.bool b23))) []) ∧ (((b23 = true) → (R (TV.tup [(true, [(AV.fz (FV.int .i64 0)), (AV.fz (FV.str (ByteArray.mk #[]))), (AV.fz (FV.bool false)), (AV.fz (FV.sl 1 ([] : LL))), (AV.fz (FV.sl 6 ([] : LL))), (AV.fz (FV.int .i64 0))]), (false, [(AV.fz (FV.bool false))])]) [])) ∧ ((b23 = false) → (R (TV.tup [(true, [(AV.fz (FV.int .i64 4)), (AV.fz (FV.str s)), (AV.fz (FV.bool false)), (AV.fz (FV.sl 1 ([] : LL))), (AV.fz (FV.sl 6 ([] : LL))), (AV.fz (FV.int .i64 0))]), (false, [(AV.fz (FV.bool true))])]) [])))))) ∧ ((b20 = false) → (R (TV.tup [(true, [(AV.fz (FV.int .i64 4)), (AV.fz (FV.str s)), (AV.fz (FV.bool false)), (AV.fz (FV.sl 1 ([] : LL))), (AV.fz (FV.sl 6 ([] : LL))), (AV.fz (FV.int .i64 0))]), (false, [(AV.fz (FV.bool true))])]) []))))))))))))))))))))))))))))))))))))))))))))))))
theorem token_Atom_fn (s : ByteArray) {r : TV} {h : List Ob} (H : token_Atom_H (fun r' h' => r' = r ∧ h' = h) s) : Fn Tryz.prog 110 [(TV.one (AV.fz (FV.str s)))] [] r h :=
 Fn.by_tr (M := (modeOf [] [])) (lv := token_Atom_lv) (own := none) (F := Tryz.f110) (by kernel_rfl) (by kernel_rfl) (by first | decide | simp) (fun _ _ h => h) (by kernel_rfl) H
def token_digit_lv : List Nat → Keep := lvOf []
def token_digit_H (R : TV → List Ob → Prop) (s : ByteArray) (at_ : Int) : Prop :=
 ((((decide (at_ < (((ByteArray.size s) : Nat) : Int))) = true) → (((0 : Int) ≤ at_) ∧ (∃ c2 : UInt8, ((((ByteArray.data s))[(Int.toNat at_)]? = (some c2)) ∧ ((((decide ((48 : Int) ≤ (((UInt8.toNat c2) : Nat) : Int))) = true) → (((0 : Int) ≤ at_) ∧ (∃ c3 : UInt8, ((((ByteArray.data s))[(Int.toNat at_)]? = (some c3)) ∧ (R (TV.one (AV.fz (FV.bool (decide ((((UInt8.toNat c3) : Nat) : Int) ≤ 57))))) []))))) ∧ (((decide ((48 : Int) ≤ (((UInt8.toNat c2) : Nat) : Int))) = false) → (R (TV.one (AV.fz (FV.bool false))) []))))))) ∧ (((decide (at_ < (((ByteArray.size s) : Nat) : Int))) = false) → (R (TV.one (AV.fz (FV.bool false))) [])))
theorem token_digit_fn (s : ByteArray) (at_ : Int) {r : TV} {h : List Ob} (H : token_digit_H (fun r' h' => r' = r ∧ h' = h) s at_) : Fn Tryz.prog 139 [(TV.one (AV.fz (FV.str s))), (TV.one (AV.fz (FV.int .i64 at_)))] [] r h :=
 Fn.by_tr (M := (modeOf [] [])) (lv := token_digit_lv) (own := none) (F := Tryz.f139) (by kernel_rfl) (by kernel_rfl) (by first | decide | simp) (fun _ _ h => h) (by kernel_rfl) H
def utf_Decode_lv : List Nat → Keep := lvOf [([0, 0, 1, 1], ⟨13, 0, [], false, false⟩)]
def utf_Decode_S0 (b : LL) (at_ : Int) (o : LL) : St := (St.mk [(TV.one (AV.fz (FV.sl 1 b))), TV.und, (TV.one (AV.ofl 1 0)), (TV.one (AV.fz (FV.int .i64 at_))), TV.und, TV.und, TV.und, TV.und, TV.und, TV.und, TV.und, TV.und, TV.und, TV.und, TV.und, TV.und, TV.und, TV.und, TV.und, TV.und, TV.und, TV.und, TV.und, TV.und, TV.und, TV.und, TV.und, TV.und, TV.und, TV.und, TV.und, TV.und, TV.und, TV.und, TV.und, TV.und, TV.und] [(Ob.f 0 1 o)])
def utf_Decode_L0 (R : TV → List Ob → Prop) (b : LL) (at_ : Int) (o : LL) : Prop := LoopAt Tryz.prog (modeOf [] []) utf_Decode_lv Tryz.f37 none R [1, 1, 0, 0] (utf_Decode_S0 b at_ o)
def utf_Decode_R0 (R : TV → List Ob → Prop) (b : List (List FV)) (at_ : Int) (o : List (List FV)) : Prop :=
 ((((decide (at_ < (((List.length b) : Nat) : Int))) = true) → ((((0 : Int) ≤ at_) ∧ (at_ ≤ (((List.length b) : Nat) : Int))) ∧ (∃ n4 : Int, (∃ n5 : Int, ((Fn Tryz.prog 61 [(TV.one (AV.fz (FV.sl 1 (List.drop (Int.toNat at_) b))))] [] (TV.tup [(false, [(AV.fz (FV.int .i32 n4))]), (false, [(AV.fz (FV.int .i64 n5))])]) []) ∧ ((((n4 == 65533) = true) → ((((decide (n5 < 2)) = true) → (R (TV.tup [(false, [(AV.fz (FV.sl 1 ([] : LL)))]), (false, [(AV.fz (FV.int .i64 at_))]), (false, [(AV.fz (FV.int .i64 4))])]) [])) ∧ (((decide (n5 < 2)) = false) → (((((List.length o) + (List.length [[(FV.int .i64 (IntKind.wrap .i64 n4))]])) * 8) ≤ 220000000000000) ∧ (utf_Decode_L0 R b (IntKind.wrap .i64 (at_ + n5)) (o ++ [[(FV.int .i64 (IntKind.wrap .i64 n4))]])))))) ∧ (((n4 == 65533) = false) → (((((List.length o) + (List.length [[(FV.int .i64 (IntKind.wrap .i64 n4))]])) * 8) ≤ 220000000000000) ∧ (utf_Decode_L0 R b (IntKind.wrap .i64 (at_ + n5)) (o ++ [[(FV.int .i64 (IntKind.wrap .i64 n4))]])))))))))) ∧ (((decide (at_ < (((List.length b) : Nat) : Int))) = false) → (R (TV.tup [(false, [(AV.fz (FV.sl 1 o))]), (false, [(AV.fz (FV.int .i64 0))]), (false, [(AV.fz (FV.int .i64 0))])]) [])))
theorem utf_Decode_l0 {R : TV → List Ob → Prop} {b : LL} {at_ : Int} {o : LL} (h : utf_Decode_R0 R b at_ o) : utf_Decode_L0 R b at_ o :=
 LoopAt.by_tr (by kernel_rfl) (by kernel_rfl) h
def utf_Decode_H (R : TV → List Ob → Prop) (b : List (List FV)) : Prop :=
 ((((decide ((65536 : Int) < (((List.length b) : Nat) : Int))) = true) → (R (TV.tup [(false, [(AV.fz (FV.sl 1 ([] : LL)))]), (false, [(AV.fz (FV.int .i64 0))]), (false, [(AV.fz (FV.int .i64 6))])]) [])) ∧ (((decide ((65536 : Int) < (((List.length b) : Nat) : Int))) = false) → (utf_Decode_L0 R b 0 ([] : LL))))
theorem utf_Decode_fn (b : LL) {r : TV} {h : List Ob} (H : utf_Decode_H (fun r' h' => r' = r ∧ h' = h) b) : Fn Tryz.prog 37 [(TV.one (AV.fz (FV.sl 1 b)))] [] r h :=
 Fn.by_tr (M := (modeOf [] [])) (lv := utf_Decode_lv) (own := none) (F := Tryz.f37) (by kernel_rfl) (by kernel_rfl) (by first | decide | simp) (fun _ _ h => h) (by kernel_rfl) H
def utf_Ends_lv : List Nat → Keep := lvOf []
def utf_Ends_H (R : TV → List Ob → Prop) (c : Int) : Prop :=
 (∃ b1 : Bool, ((Fn Tryz.prog 102 [(TV.one (AV.fz (FV.int .i64 c)))] [] (TV.one (AV.fz (FV.bool b1))) []) ∧ (((b1 = true) → (R (TV.one (AV.fz (FV.bool true))) [])) ∧ ((b1 = false) → ((((decide ((0 : Int) < c)) = true) → ((((decide (c < 128)) = true) → (∃ n1 : Int, ((Fn Tryz.prog 131 [(TV.one (AV.fz (FV.str (ByteArray.mk #[40, 41, 59, 34, 39, 96, 44])))), (TV.one (AV.fz (FV.int .u8 (IntKind.wrap .u8 c))))] [] (TV.one (AV.fz (FV.int .i64 n1))) []) ∧ (R (TV.one (AV.fz (FV.bool (decide ((0 : Int) ≤ n1))))) [])))) ∧ (((decide (c < 128)) = false) → (R (TV.one (AV.fz (FV.bool false))) [])))) ∧ (((decide ((0 : Int) < c)) = false) → (R (TV.one (AV.fz (FV.bool false))) [])))))))
theorem utf_Ends_fn (c : Int) {r : TV} {h : List Ob} (H : utf_Ends_H (fun r' h' => r' = r ∧ h' = h) c) : Fn Tryz.prog 104 [(TV.one (AV.fz (FV.int .i64 c)))] [] r h :=
 Fn.by_tr (M := (modeOf [] [])) (lv := utf_Ends_lv) (own := none) (F := Tryz.f104) (by kernel_rfl) (by kernel_rfl) (by first | decide | simp) (fun _ _ h => h) (by kernel_rfl) H
def utf_Blank_lv : List Nat → Keep := lvOf []
def utf_Blank_H (R : TV → List Ob → Prop) (c : Int) : Prop :=
 ((((c == 9) = true) → (R (TV.one (AV.fz (FV.bool true))) [])) ∧ (((c == 9) = false) → ((((c == 10) = true) → (R (TV.one (AV.fz (FV.bool true))) [])) ∧ (((c == 10) = false) → ((((c == 13) = true) → (R (TV.one (AV.fz (FV.bool true))) [])) ∧ (((c == 13) = false) → (R (TV.one (AV.fz (FV.bool (c == 32)))) [])))))))
theorem utf_Blank_fn (c : Int) {r : TV} {h : List Ob} (H : utf_Blank_H (fun r' h' => r' = r ∧ h' = h) c) : Fn Tryz.prog 102 [(TV.one (AV.fz (FV.int .i64 c)))] [] r h :=
 Fn.by_tr (M := (modeOf [] [])) (lv := utf_Blank_lv) (own := none) (F := Tryz.f102) (by kernel_rfl) (by kernel_rfl) (by first | decide | simp) (fun _ _ h => h) (by kernel_rfl) H
end Go.Proofs.YtenkkekooimpjaaGreatDoor.Ev
end
section
set_option linter.unusedVariables false
set_option maxRecDepth 100000
namespace Go.Proofs.YtenkkekooimpjaaGreatDoor.Ev
open Go
def ref02_Sound_lv : List Nat → Keep := lvOf []
def ref02_Sound_H (R : TV → List Ob → Prop) (d0 : Int) (d1 : ByteArray) (d2 : Bool) (d3 : List (List FV)) (d4 : List (List FV)) (d5 : Int) : Prop :=
 (∃ n1 : Int, ((Fn Tryz.prog 43 [(TV.agg [(AV.fz (FV.int .i64 d0)), (AV.fz (FV.str d1)), (AV.fz (FV.bool d2)), (AV.fz (FV.sl 1 d3)), (AV.fz (FV.sl 6 d4)), (AV.fz (FV.int .i64 d5))]), (TV.one (AV.fz (FV.int .i64 1))), (TV.one (AV.fz (FV.int .i64 8192)))] [] (TV.one (AV.fz (FV.int .i64 n1))) []) ∧ (R (TV.one (AV.fz (FV.bool (decide (n1 ≤ 8192))))) [])))
theorem ref02_Sound_fn (d0 : Int) (d1 : ByteArray) (d2 : Bool) (d3 : LL) (d4 : LL) (d5 : Int) {r : TV} {h : List Ob} (H : ref02_Sound_H (fun r' h' => r' = r ∧ h' = h) d0 d1 d2 d3 d4 d5) : Fn Tryz.prog 17 [(TV.agg [(AV.fz (FV.int .i64 d0)), (AV.fz (FV.str d1)), (AV.fz (FV.bool d2)), (AV.fz (FV.sl 1 d3)), (AV.fz (FV.sl 6 d4)), (AV.fz (FV.int .i64 d5))])] [] r h :=
 Fn.by_tr (M := (modeOf [] [])) (lv := ref02_Sound_lv) (own := none) (F := Tryz.f17) (by kernel_rfl) (by kernel_rfl) (by first | decide | simp) (fun _ _ h => h) (by kernel_rfl) H
def ref02_size_lv : List Nat → Keep := lvOf [([0, 1, 0, 1, 1, 0, 1, 0, 1, 0, 1, 1, 1], ⟨910, 0, [], false, false⟩)]
def ref02_size_S0 (d0 : Int) (d1 : ByteArray) (d2 : Bool) (d3 : LL) (d4 : LL) (d5 : Int) (depth : Int) (room : Int) (n11 : Int) (i : Int) : St := (St.mk [TV.und, (TV.one (AV.fz (FV.int .i64 depth))), (TV.one (AV.fz (FV.int .i64 room))), (TV.one (AV.ptr 0 0 0 0)), TV.und, TV.und, TV.und, (TV.one (AV.fz (FV.int .i64 100000))), (TV.one (AV.fz (FV.int .i64 n11))), (TV.one (AV.fz (FV.int .i64 i))), TV.und, TV.und, TV.und, TV.und, TV.und, TV.und, TV.und, TV.und, TV.und, TV.und, TV.und, TV.und, TV.und, TV.und, TV.und, TV.und, TV.und, TV.und, TV.und, TV.und, TV.und, TV.und, TV.und, TV.und, TV.und, TV.und, TV.und, TV.und, TV.und, TV.und, TV.und, TV.und, TV.und, TV.und, TV.und, TV.und, TV.und, TV.und, TV.und, TV.und, TV.und, TV.und, TV.und, TV.und, TV.und, TV.und, TV.und, TV.und, TV.und, TV.und, TV.und, TV.und, TV.und, TV.und, TV.und, TV.und, TV.und, TV.und, TV.und, TV.und, TV.und, TV.und, TV.und, TV.und, TV.und, TV.und, TV.und, TV.und, TV.und, TV.und, TV.und, TV.und, TV.und, TV.und, TV.und, TV.und, TV.und, TV.und, TV.und, TV.und, TV.und, TV.und, TV.und, TV.und, TV.und, TV.und, TV.und, TV.und, TV.und, TV.und, TV.und, TV.und, TV.und, TV.und, TV.und, TV.und, TV.und, TV.und, TV.und, TV.und, TV.und, TV.und, TV.und, TV.und, TV.und, TV.und, TV.und, TV.und, TV.und, TV.und, TV.und, TV.und, TV.und, TV.und, TV.und, TV.und, TV.und, TV.und, TV.und, TV.und, TV.und, TV.und, TV.und, TV.und, TV.und, TV.und, TV.und, TV.und, TV.und, TV.und, TV.und, TV.und, TV.und, TV.und, TV.und, TV.und, TV.und, TV.und, TV.und, TV.und, TV.und, TV.und, TV.und, TV.und, TV.und, TV.und, TV.und, TV.und, TV.und, TV.und, TV.und, TV.und, TV.und, TV.und, TV.und, TV.und, TV.und, TV.und, TV.und, TV.und, TV.und, TV.und] [(Ob.g 33 [(AV.fz (FV.int .i64 d0)), (AV.fz (FV.str d1)), (AV.fz (FV.bool d2)), (AV.fz (FV.sl 1 d3)), (AV.fz (FV.sl 6 d4)), (AV.fz (FV.int .i64 d5))])])
def ref02_size_L0 (R : TV → List Ob → Prop) (d0 : Int) (d1 : ByteArray) (d2 : Bool) (d3 : LL) (d4 : LL) (d5 : Int) (depth : Int) (room : Int) (n11 : Int) (i : Int) : Prop := LoopAt Tryz.prog (modeOf [] []) ref02_size_lv Tryz.f43 none R [1, 1, 1, 0, 1, 0, 1, 0, 1, 1, 0, 1, 0] (ref02_size_S0 d0 d1 d2 d3 d4 d5 depth room n11 i)
def ref02_size_R0 (R : TV → List Ob → Prop) (d0 : Int) (d1 : ByteArray) (d2 : Bool) (d3 : LL) (d4 : LL) (d5 : Int) (depth : Int) (room : Int) (n11 : Int) (i : Int) : Prop :=
 ((((decide (i < (((List.length d4) : Nat) : Int))) = true) → (((0 : Int) ≤ i) ∧ (∃ n19 : Int, (∃ s7 : ByteArray, (∃ b24 : Bool, (∃ es16 : LL, (∃ es17 : LL, (∃ n20 : Int, (((d4)[(Int.toNat i)]? = (some [(FV.int .i64 n19), (FV.str s7), (FV.bool b24), (FV.sl 1 es16), (FV.sl 6 es17), (FV.int .i64 n20)])) ∧ (∃ n21 : Int, ((Fn Tryz.prog 43 [(TV.agg [(AV.fz (FV.int .i64 n19)), (AV.fz (FV.str s7)), (AV.fz (FV.bool b24)), (AV.fz (FV.sl 1 es16)), (AV.fz (FV.sl 6 es17)), (AV.fz (FV.int .i64 n20))]), (TV.one (AV.fz (FV.int .i64 (IntKind.wrap .i64 (depth + 1))))), (TV.one (AV.fz (FV.int .i64 (IntKind.wrap .i64 (room - n11)))))] [] (TV.one (AV.fz (FV.int .i64 n21))) []) ∧ ((((decide (room < (IntKind.wrap .i64 (n11 + n21)))) = true) → (R (TV.one (AV.fz (FV.int .i64 100000))) [])) ∧ (((decide (room < (IntKind.wrap .i64 (n11 + n21)))) = false) → (ref02_size_L0 R d0 d1 d2 d3 d4 d5 depth room (IntKind.wrap .i64 (n11 + n21)) (IntKind.wrap .i64 (i + 1)))))))))))))))) ∧ (((decide (i < (((List.length d4) : Nat) : Int))) = false) → ((((d0 == 2) = true) → ((((decide ((((List.length d4) : Nat) : Int) < 2)) = true) → (R (TV.one (AV.fz (FV.int .i64 100000))) [])) ∧ (((decide ((((List.length d4) : Nat) : Int) < 2)) = false) → (((0 : Int) ≤ (IntKind.wrap .i64 ((((List.length d4) : Nat) : Int) - 1))) ∧ (∃ n22 : Int, (∃ s8 : ByteArray, (∃ b25 : Bool, (∃ es18 : LL, (∃ es19 : LL, (∃ n23 : Int, (((d4)[(Int.toNat (IntKind.wrap .i64 ((((List.length d4) : Nat) : Int) - 1)))]? = (some [(FV.int .i64 n22), (FV.str s8), (FV.bool b25), (FV.sl 1 es18), (FV.sl 6 es19), (FV.int .i64 n23)])) ∧ ((((n22 == 1) = true) → (R (TV.one (AV.fz (FV.int .i64 100000))) [])) ∧ (((n22 == 1) = false) → (((0 : Int) ≤ (IntKind.wrap .i64 ((((List.length d4) : Nat) : Int) - 1))) ∧ (∃ n24 : Int, (∃ s9 : ByteArray, (∃ b26 : Bool, (∃ es20 : LL, (∃ es21 : LL, (∃ n25 : Int, (((d4)[(Int.toNat (IntKind.wrap .i64 ((((List.length d4) : Nat) : Int) - 1)))]? = (some [(FV.int .i64 n24), (FV.str s9), (FV.bool b26), (FV.sl 1 es20), (FV.sl 6 es21), (FV.int .i64 n25)])) ∧ ((((n24 == 2) = true) → (R (TV.one (AV.fz (FV.int .i64 100000))) [])) ∧ (((n24 == 2) = false) → (R (TV.one (AV.fz (FV.int .i64 n11))) [])))))))))))))))))))))))) ∧ (((d0 == 2) = false) → (R (TV.one (AV.fz (FV.int .i64 n11))) [])))))
theorem ref02_size_l0 {R : TV → List Ob → Prop} {d0 : Int} {d1 : ByteArray} {d2 : Bool} {d3 : LL} {d4 : LL} {d5 : Int} {depth : Int} {room : Int} {n11 : Int} {i : Int} (h : ref02_size_R0 R d0 d1 d2 d3 d4 d5 depth room n11 i) : ref02_size_L0 R d0 d1 d2 d3 d4 d5 depth room n11 i :=
 LoopAt.by_tr (by kernel_rfl) (by kernel_rfl) h
def ref02_size_H (R : TV → List Ob → Prop) (d0 : Int) (d1 : ByteArray) (d2 : Bool) (d3 : LL) (d4 : LL) (d5 : Int) (depth : Int) (room : Int) : Prop :=
 ((((decide ((64 : Int) < depth)) = true) → (R (TV.one (AV.fz (FV.int .i64 100000))) [])) ∧ (((decide ((64 : Int) < depth)) = false) → ((((decide (room < 1)) = true) → (R (TV.one (AV.fz (FV.int .i64 100000))) [])) ∧ (((decide (room < 1)) = false) → ((((d0 == 1) = true) → (∃ b24 : Bool, ((Fn Tryz.prog 73 [(TV.agg [(AV.fz (FV.int .i64 d0)), (AV.fz (FV.str d1)), (AV.fz (FV.bool d2)), (AV.fz (FV.sl 1 d3)), (AV.fz (FV.sl 6 d4)), (AV.fz (FV.int .i64 d5))]), (TV.one (AV.fz (FV.bool false))), (TV.one (AV.fz (FV.bool false))), (TV.one (AV.fz (FV.bool true)))] [] (TV.one (AV.fz (FV.bool b24))) []) ∧ ((((Bool.not b24) = true) → (R (TV.one (AV.fz (FV.int .i64 100000))) [])) ∧ (((Bool.not b24) = false) → (ref02_size_L0 R d0 d1 d2 d3 d4 d5 depth room 1 0)))))) ∧ (((d0 == 1) = false) → ((((d0 == 2) = true) → (∃ b25 : Bool, ((Fn Tryz.prog 73 [(TV.agg [(AV.fz (FV.int .i64 d0)), (AV.fz (FV.str d1)), (AV.fz (FV.bool d2)), (AV.fz (FV.sl 1 d3)), (AV.fz (FV.sl 6 d4)), (AV.fz (FV.int .i64 d5))]), (TV.one (AV.fz (FV.bool false))), (TV.one (AV.fz (FV.bool false))), (TV.one (AV.fz (FV.bool true)))] [] (TV.one (AV.fz (FV.bool b25))) []) ∧ ((((Bool.not b25) = true) → (R (TV.one (AV.fz (FV.int .i64 100000))) [])) ∧ (((Bool.not b25) = false) → (ref02_size_L0 R d0 d1 d2 d3 d4 d5 depth room 1 0)))))) ∧ (((d0 == 2) = false) → ((((d0 == 3) = true) → (∃ b26 : Bool, ((Fn Tryz.prog 73 [(TV.agg [(AV.fz (FV.int .i64 d0)), (AV.fz (FV.str d1)), (AV.fz (FV.bool d2)), (AV.fz (FV.sl 1 d3)), (AV.fz (FV.sl 6 d4)), (AV.fz (FV.int .i64 d5))]), (TV.one (AV.fz (FV.bool false))), (TV.one (AV.fz (FV.bool false))), (TV.one (AV.fz (FV.bool true)))] [] (TV.one (AV.fz (FV.bool b26))) []) ∧ ((((Bool.not b26) = true) → (R (TV.one (AV.fz (FV.int .i64 100000))) [])) ∧ (((Bool.not b26) = false) → (ref02_size_L0 R d0 d1 d2 d3 d4 d5 depth room 1 0)))))) ∧ (((d0 == 3) = false) → ((((d0 == 4) = true) → (∃ n19 : Int, (∃ s7 : ByteArray, (∃ b27 : Bool, (∃ es16 : LL, (∃ es17 : LL, (∃ n20 : Int, (∃ b28 : Bool, ((Fn Tryz.prog 74 [(TV.one (AV.fz (FV.str d1)))] [] (TV.tup [(true, [(AV.fz (FV.int .i64 n19)), (AV.fz (FV.str s7)), (AV.fz (FV.bool b27)), (AV.fz (FV.sl 1 es16)), (AV.fz (FV.sl 6 es17)), (AV.fz (FV.int .i64 n20))]), (false, [(AV.fz (FV.bool b28))])]) []) ∧ (((b28 = true) → ((((n19 == 4) = true) → (∃ b29 : Bool, ((Fn Tryz.prog 73 [(TV.agg [(AV.fz (FV.int .i64 d0)), (AV.fz (FV.str d1)), (AV.fz (FV.bool d2)), (AV.fz (FV.sl 1 d3)), (AV.fz (FV.sl 6 d4)), (AV.fz (FV.int .i64 d5))]), (TV.one (AV.fz (FV.bool true))), (TV.one (AV.fz (FV.bool false))), (TV.one (AV.fz (FV.bool false)))] [] (TV.one (AV.fz (FV.bool b29))) []) ∧ (((b29 = true) → (R (TV.one (AV.fz (FV.int .i64 1))) [])) ∧ ((b29 = false) → (R (TV.one (AV.fz (FV.int .i64 100000))) [])))))) ∧ (((n19 == 4) = false) → (R (TV.one (AV.fz (FV.int .i64 100000))) [])))) ∧ ((b28 = false) → (R (TV.one (AV.fz (FV.int .i64 100000))) [])))))))))))) ∧ (((d0 == 4) = false) → ((((d0 == 5) = true) → (∃ es18 : LL, (∃ n21 : Int, ((Fn Tryz.prog 45 [(TV.one (AV.fz (FV.sl 1 (List.map (fun b31 => [(FV.int .u8 (((UInt8.toNat b31) : Nat) : Int))]) (Array.toList (ByteArray.data d1))))))] [] (TV.tup [(false, [(AV.fz (FV.sl 1 es18))]), (false, [(AV.fz (FV.int .i64 n21))])]) []) ∧ ((((decide (n21 < 0)) = true) → ((((decide ((((List.length es18) : Nat) : Int) ≤ 4096)) = true) → ((((decide ((((ByteArray.size d1) : Nat) : Int) ≤ 65536)) = true) → (∃ b32 : Bool, ((Fn Tryz.prog 73 [(TV.agg [(AV.fz (FV.int .i64 d0)), (AV.fz (FV.str d1)), (AV.fz (FV.bool d2)), (AV.fz (FV.sl 1 d3)), (AV.fz (FV.sl 6 d4)), (AV.fz (FV.int .i64 d5))]), (TV.one (AV.fz (FV.bool true))), (TV.one (AV.fz (FV.bool false))), (TV.one (AV.fz (FV.bool false)))] [] (TV.one (AV.fz (FV.bool b32))) []) ∧ (((b32 = true) → (R (TV.one (AV.fz (FV.int .i64 1))) [])) ∧ ((b32 = false) → (R (TV.one (AV.fz (FV.int .i64 100000))) [])))))) ∧ (((decide ((((ByteArray.size d1) : Nat) : Int) ≤ 65536)) = false) → (R (TV.one (AV.fz (FV.int .i64 100000))) [])))) ∧ (((decide ((((List.length es18) : Nat) : Int) ≤ 4096)) = false) → (R (TV.one (AV.fz (FV.int .i64 100000))) [])))) ∧ (((decide (n21 < 0)) = false) → (R (TV.one (AV.fz (FV.int .i64 100000))) []))))))) ∧ (((d0 == 5) = false) → ((((d0 == 6) = true) → (∃ es19 : LL, (∃ n22 : Int, ((Fn Tryz.prog 45 [(TV.one (AV.fz (FV.sl 1 (List.map (fun b34 => [(FV.int .u8 (((UInt8.toNat b34) : Nat) : Int))]) (Array.toList (ByteArray.data d1))))))] [] (TV.tup [(false, [(AV.fz (FV.sl 1 es19))]), (false, [(AV.fz (FV.int .i64 n22))])]) []) ∧ ((((decide (n22 < 0)) = true) → (((((((List.length es19) : Nat) : Int) == 1) = true) → (∃ b35 : Bool, ((Fn Tryz.prog 73 [(TV.agg [(AV.fz (FV.int .i64 d0)), (AV.fz (FV.str d1)), (AV.fz (FV.bool d2)), (AV.fz (FV.sl 1 d3)), (AV.fz (FV.sl 6 d4)), (AV.fz (FV.int .i64 d5))]), (TV.one (AV.fz (FV.bool true))), (TV.one (AV.fz (FV.bool false))), (TV.one (AV.fz (FV.bool false)))] [] (TV.one (AV.fz (FV.bool b35))) []) ∧ (((b35 = true) → (R (TV.one (AV.fz (FV.int .i64 1))) [])) ∧ ((b35 = false) → (R (TV.one (AV.fz (FV.int .i64 100000))) [])))))) ∧ ((((((List.length es19) : Nat) : Int) == 1) = false) → (R (TV.one (AV.fz (FV.int .i64 100000))) [])))) ∧ (((decide (n22 < 0)) = false) → (R (TV.one (AV.fz (FV.int .i64 100000))) []))))))) ∧ (((d0 == 6) = false) → ((((d0 == 7) = true) → (∃ b36 : Bool, ((Fn Tryz.prog 75 [(TV.agg [(AV.fz (FV.bool d2)), (AV.fz (FV.sl 1 d3))])] [] (TV.one (AV.fz (FV.bool b36))) []) ∧ (((b36 = true) → (∃ b37 : Bool, ((Fn Tryz.prog 73 [(TV.agg [(AV.fz (FV.int .i64 d0)), (AV.fz (FV.str d1)), (AV.fz (FV.bool d2)), (AV.fz (FV.sl 1 d3)), (AV.fz (FV.sl 6 d4)), (AV.fz (FV.int .i64 d5))]), (TV.one (AV.fz (FV.bool false))), (TV.one (AV.fz (FV.bool true))), (TV.one (AV.fz (FV.bool false)))] [] (TV.one (AV.fz (FV.bool b37))) []) ∧ (((b37 = true) → (R (TV.one (AV.fz (FV.int .i64 1))) [])) ∧ ((b37 = false) → (R (TV.one (AV.fz (FV.int .i64 100000))) [])))))) ∧ ((b36 = false) → (R (TV.one (AV.fz (FV.int .i64 100000))) [])))))) ∧ (((d0 == 7) = false) → ((((d0 == 8) = true) → (∃ b38 : Bool, ((Fn Tryz.prog 73 [(TV.agg [(AV.fz (FV.int .i64 d0)), (AV.fz (FV.str d1)), (AV.fz (FV.bool d2)), (AV.fz (FV.sl 1 d3)), (AV.fz (FV.sl 6 d4)), (AV.fz (FV.int .i64 d5))]), (TV.one (AV.fz (FV.bool false))), (TV.one (AV.fz (FV.bool false))), (TV.one (AV.fz (FV.bool false)))] [] (TV.one (AV.fz (FV.bool b38))) []) ∧ (((b38 = true) → (R (TV.one (AV.fz (FV.int .i64 1))) [])) ∧ ((b38 = false) → (R (TV.one (AV.fz (FV.int .i64 100000))) [])))))) ∧ (((d0 == 8) = false) → ((((d0 == 9) = true) → (∃ b39 : Bool, ((Fn Tryz.prog 73 [(TV.agg [(AV.fz (FV.int .i64 d0)), (AV.fz (FV.str d1)), (AV.fz (FV.bool d2)), (AV.fz (FV.sl 1 d3)), (AV.fz (FV.sl 6 d4)), (AV.fz (FV.int .i64 d5))]), (TV.one (AV.fz (FV.bool false))), (TV.one (AV.fz (FV.bool false))), (TV.one (AV.fz (FV.bool false)))] [] (TV.one (AV.fz (FV.bool b39))) []) ∧ (((b39 = true) → (R (TV.one (AV.fz (FV.int .i64 1))) [])) ∧ ((b39 = false) → (R (TV.one (AV.fz (FV.int .i64 100000))) [])))))) ∧ (((d0 == 9) = false) → ((((d0 == 10) = true) → (∃ b40 : Bool, ((Fn Tryz.prog 73 [(TV.agg [(AV.fz (FV.int .i64 d0)), (AV.fz (FV.str d1)), (AV.fz (FV.bool d2)), (AV.fz (FV.sl 1 d3)), (AV.fz (FV.sl 6 d4)), (AV.fz (FV.int .i64 d5))]), (TV.one (AV.fz (FV.bool false))), (TV.one (AV.fz (FV.bool false))), (TV.one (AV.fz (FV.bool false)))] [] (TV.one (AV.fz (FV.bool b40))) []) ∧ (((b40 = true) → (R (TV.one (AV.fz (FV.int .i64 1))) [])) ∧ ((b40 = false) → (R (TV.one (AV.fz (FV.int .i64 100000))) [])))))) ∧ (((d0 == 10) = false) → ((((d0 == 11) = true) → (∃ b41 : Bool, ((Fn Tryz.prog 73 [(TV.agg [(AV.fz (FV.int .i64 d0)), (AV.fz (FV.str d1)), (AV.fz (FV.bool d2)), (AV.fz (FV.sl 1 d3)), (AV.fz (FV.sl 6 d4)), (AV.fz (FV.int .i64 d5))]), (TV.one (AV.fz (FV.bool true))), (TV.one (AV.fz (FV.bool false))), (TV.one (AV.fz (FV.bool false)))] [] (TV.one (AV.fz (FV.bool b41))) []) ∧ (((b41 = true) → (R (TV.one (AV.fz (FV.int .i64 1))) [])) ∧ ((b41 = false) → (R (TV.one (AV.fz (FV.int .i64 100000))) [])))))) ∧ (((d0 == 11) = false) → (R (TV.one (AV.fz (FV.int .i64 100000))) [])))))))))))))))))))))))))))
theorem ref02_size_fn (d0 : Int) (d1 : ByteArray) (d2 : Bool) (d3 : LL) (d4 : LL) (d5 : Int) (depth : Int) (room : Int) {r : TV} {h : List Ob} (H : ref02_size_H (fun r' h' => r' = r ∧ h' = h) d0 d1 d2 d3 d4 d5 depth room) : Fn Tryz.prog 43 [(TV.agg [(AV.fz (FV.int .i64 d0)), (AV.fz (FV.str d1)), (AV.fz (FV.bool d2)), (AV.fz (FV.sl 1 d3)), (AV.fz (FV.sl 6 d4)), (AV.fz (FV.int .i64 d5))]), (TV.one (AV.fz (FV.int .i64 depth))), (TV.one (AV.fz (FV.int .i64 room)))] [] r h :=
 Fn.by_tr (M := (modeOf [] [])) (lv := ref02_size_lv) (own := none) (F := Tryz.f43) (by kernel_rfl) (by kernel_rfl) (by first | decide | simp) (fun _ _ h => h) (by kernel_rfl) H
def ref02_bare_lv : List Nat → Keep := lvOf []
def ref02_bare_H (R : TV → List Ob → Prop) (d0 : Int) (d1 : ByteArray) (d2 : Bool) (d3 : LL) (d4 : LL) (d5 : Int) (text : Bool) (number : Bool) (list : Bool) : Prop :=
 (((text = true) → (((number = true) → (((list = true) → (R (TV.one (AV.fz (FV.bool true))) [])) ∧ ((list = false) → (R (TV.one (AV.fz (FV.bool ((((List.length d4) : Nat) : Int) == 0)))) [])))) ∧ ((number = false) → ((((Bool.not d2) = true) → (((((((List.length d3) : Nat) : Int) == 0) = true) → (((list = true) → (R (TV.one (AV.fz (FV.bool true))) [])) ∧ ((list = false) → (R (TV.one (AV.fz (FV.bool ((((List.length d4) : Nat) : Int) == 0)))) [])))) ∧ ((((((List.length d3) : Nat) : Int) == 0) = false) → (R (TV.one (AV.fz (FV.bool false))) [])))) ∧ (((Bool.not d2) = false) → (R (TV.one (AV.fz (FV.bool false))) [])))))) ∧ ((text = false) → (((((ByteArray.toList d1) == (ByteArray.toList (ByteArray.mk #[]))) = true) → (((number = true) → (((list = true) → (R (TV.one (AV.fz (FV.bool true))) [])) ∧ ((list = false) → (R (TV.one (AV.fz (FV.bool ((((List.length d4) : Nat) : Int) == 0)))) [])))) ∧ ((number = false) → ((((Bool.not d2) = true) → (((((((List.length d3) : Nat) : Int) == 0) = true) → (((list = true) → (R (TV.one (AV.fz (FV.bool true))) [])) ∧ ((list = false) → (R (TV.one (AV.fz (FV.bool ((((List.length d4) : Nat) : Int) == 0)))) [])))) ∧ ((((((List.length d3) : Nat) : Int) == 0) = false) → (R (TV.one (AV.fz (FV.bool false))) [])))) ∧ (((Bool.not d2) = false) → (R (TV.one (AV.fz (FV.bool false))) [])))))) ∧ ((((ByteArray.toList d1) == (ByteArray.toList (ByteArray.mk #[]))) = false) → (R (TV.one (AV.fz (FV.bool false))) [])))))
theorem ref02_bare_fn (d0 : Int) (d1 : ByteArray) (d2 : Bool) (d3 : LL) (d4 : LL) (d5 : Int) (text : Bool) (number : Bool) (list : Bool) {r : TV} {h : List Ob} (H : ref02_bare_H (fun r' h' => r' = r ∧ h' = h) d0 d1 d2 d3 d4 d5 text number list) : Fn Tryz.prog 73 [(TV.agg [(AV.fz (FV.int .i64 d0)), (AV.fz (FV.str d1)), (AV.fz (FV.bool d2)), (AV.fz (FV.sl 1 d3)), (AV.fz (FV.sl 6 d4)), (AV.fz (FV.int .i64 d5))]), (TV.one (AV.fz (FV.bool text))), (TV.one (AV.fz (FV.bool number))), (TV.one (AV.fz (FV.bool list)))] [] r h :=
 Fn.by_tr (M := (modeOf [] [])) (lv := ref02_bare_lv) (own := none) (F := Tryz.f73) (by kernel_rfl) (by kernel_rfl) (by first | decide | simp) (fun _ _ h => h) (by kernel_rfl) H
def ref02_Atom_lv : List Nat → Keep := lvOf [([0, 1, 0, 1, 1, 1, 1, 1, 1, 1, 1], ⟨325, 0, [], false, false⟩)]
def ref02_Atom_S0 (s : ByteArray) (es1 : LL) (i : Int) : St := (St.mk [(TV.one (AV.fz (FV.str s))), TV.und, (TV.one (AV.ptr 0 0 0 0)), TV.und, TV.und, TV.und, (TV.one (AV.fz (FV.sl 1 es1))), TV.und, (TV.one (AV.fz (FV.int .i64 i))), TV.und, TV.und, TV.und, TV.und, TV.und, TV.und, TV.und, TV.und, TV.und, TV.und, TV.und, TV.und, TV.und, TV.und, TV.und, TV.und, TV.und, TV.und, TV.und, TV.und, TV.und, TV.und, TV.und, TV.und, TV.und, TV.und, TV.und, TV.und, TV.und, TV.und, TV.und, TV.und, TV.und, TV.und, TV.und, TV.und, TV.und, TV.und, TV.und, TV.und, TV.und, TV.und, TV.und, TV.und, TV.und, TV.und, TV.und, TV.und, TV.und, TV.und, TV.und, TV.und, TV.und, TV.und, TV.und, TV.und, TV.und, TV.und, TV.und, TV.und, TV.und, TV.und, TV.und, TV.und, TV.und, TV.und, TV.und, TV.und, TV.und, TV.und, TV.und, TV.und, TV.und, TV.und, TV.und, TV.und, TV.und, TV.und, TV.und, TV.und, TV.und] [(Ob.g 33 [(AV.fz (FV.int .i64 0)), (AV.fz (FV.str (ByteArray.mk #[]))), (AV.fz (FV.bool false)), (AV.ofl 1 1), (AV.ofl 6 2), (AV.fz (FV.int .i64 0))]), (Ob.f 0 1 ([] : LL)), (Ob.f 0 6 ([] : LL))])
def ref02_Atom_L0 (R : TV → List Ob → Prop) (s : ByteArray) (es1 : LL) (i : Int) : Prop := LoopAt Tryz.prog (modeOf [] []) ref02_Atom_lv Tryz.f74 none R [1, 1, 1, 1, 1, 1, 1, 1, 0, 1, 0] (ref02_Atom_S0 s es1 i)
def ref02_Atom_R0 (R : TV → List Ob → Prop) (s : ByteArray) (es1 : List (List FV)) (i : Int) : Prop :=
 ((((decide (i < (((List.length es1) : Nat) : Int))) = true) → (((0 : Int) ≤ i) ∧ (∃ n5 : Int, (((es1)[(Int.toNat i)]? = (some [(FV.int .i64 n5)])) ∧ (∃ b13 : Bool, ((Fn Tryz.prog 108 [(TV.one (AV.fz (FV.int .i64 n5)))] [] (TV.one (AV.fz (FV.bool b13))) []) ∧ (((b13 = true) → (R (TV.tup [(true, [(AV.fz (FV.int .i64 0)), (AV.fz (FV.str (ByteArray.mk #[]))), (AV.fz (FV.bool false)), (AV.fz (FV.sl 1 ([] : LL))), (AV.fz (FV.sl 6 ([] : LL))), (AV.fz (FV.int .i64 0))]), (false, [(AV.fz (FV.bool false))])]) [])) ∧ ((b13 = false) → (ref02_Atom_L0 R s es1 (IntKind.wrap .i64 (i + 1))))))))))) ∧ (((decide (i < (((List.length es1) : Nat) : Int))) = false) → (R (TV.tup [(true, [(AV.fz (FV.int .i64 4)), (AV.fz (FV.str s)), (AV.fz (FV.bool false)), (AV.fz (FV.sl 1 ([] : LL))), (AV.fz (FV.sl 6 ([] : LL))), (AV.fz (FV.int .i64 0))]), (false, [(AV.fz (FV.bool true))])]) [])))
theorem ref02_Atom_l0 {R : TV → List Ob → Prop} {s : ByteArray} {es1 : LL} {i : Int} (h : ref02_Atom_R0 R s es1 i) : ref02_Atom_L0 R s es1 i :=
 LoopAt.by_tr (by kernel_rfl) (by kernel_rfl) h
def ref02_Atom_H (R : TV → List Ob → Prop) (s : ByteArray) : Prop :=
 (((((ByteArray.toList s) == (ByteArray.toList (ByteArray.mk #[35, 116]))) = true) → (R (TV.tup [(true, [(AV.fz (FV.int .i64 8)), (AV.fz (FV.str (ByteArray.mk #[]))), (AV.fz (FV.bool false)), (AV.fz (FV.sl 1 ([] : LL))), (AV.fz (FV.sl 6 ([] : LL))), (AV.fz (FV.int .i64 0))]), (false, [(AV.fz (FV.bool true))])]) [])) ∧ ((((ByteArray.toList s) == (ByteArray.toList (ByteArray.mk #[35, 116]))) = false) → (((((ByteArray.toList s) == (ByteArray.toList (ByteArray.mk #[35, 116, 114, 117, 101]))) = true) → (R (TV.tup [(true, [(AV.fz (FV.int .i64 8)), (AV.fz (FV.str (ByteArray.mk #[]))), (AV.fz (FV.bool false)), (AV.fz (FV.sl 1 ([] : LL))), (AV.fz (FV.sl 6 ([] : LL))), (AV.fz (FV.int .i64 0))]), (false, [(AV.fz (FV.bool true))])]) [])) ∧ ((((ByteArray.toList s) == (ByteArray.toList (ByteArray.mk #[35, 116, 114, 117, 101]))) = false) → (((((ByteArray.toList s) == (ByteArray.toList (ByteArray.mk #[35, 102]))) = true) → (R (TV.tup [(true, [(AV.fz (FV.int .i64 9)), (AV.fz (FV.str (ByteArray.mk #[]))), (AV.fz (FV.bool false)), (AV.fz (FV.sl 1 ([] : LL))), (AV.fz (FV.sl 6 ([] : LL))), (AV.fz (FV.int .i64 0))]), (false, [(AV.fz (FV.bool true))])]) [])) ∧ ((((ByteArray.toList s) == (ByteArray.toList (ByteArray.mk #[35, 102]))) = false) → (((((ByteArray.toList s) == (ByteArray.toList (ByteArray.mk #[35, 102, 97, 108, 115, 101]))) = true) → (R (TV.tup [(true, [(AV.fz (FV.int .i64 9)), (AV.fz (FV.str (ByteArray.mk #[]))), (AV.fz (FV.bool false)), (AV.fz (FV.sl 1 ([] : LL))), (AV.fz (FV.sl 6 ([] : LL))), (AV.fz (FV.int .i64 0))]), (false, [(AV.fz (FV.bool true))])]) [])) ∧ ((((ByteArray.toList s) == (ByteArray.toList (ByteArray.mk #[35, 102, 97, 108, 115, 101]))) = false) → (∃ b13 : Bool, (∃ es4 : LL, (∃ b14 : Bool, ((Fn Tryz.prog 106 [(TV.one (AV.fz (FV.str s)))] [] (TV.tup [(true, [(AV.fz (FV.bool b13)), (AV.fz (FV.sl 1 es4))]), (false, [(AV.fz (FV.bool b14))])]) []) ∧ (((b14 = true) → (R (TV.tup [(true, [(AV.fz (FV.int .i64 7)), (AV.fz (FV.str (ByteArray.mk #[]))), (AV.fz (FV.bool b13)), (AV.fz (FV.sl 1 es4)), (AV.fz (FV.sl 6 ([] : LL))), (AV.fz (FV.int .i64 0))]), (false, [(AV.fz (FV.bool true))])]) [])) ∧ ((b14 = false) → ((((decide ((((ByteArray.size s) : Nat) : Int) < 1)) = true) → (R (TV.tup [(true, [(AV.fz (FV.int .i64 0)), (AV.fz (FV.str (ByteArray.mk #[]))), (AV.fz (FV.bool false)), (AV.fz (FV.sl 1 ([] : LL))), (AV.fz (FV.sl 6 ([] : LL))), (AV.fz (FV.int .i64 0))]), (false, [(AV.fz (FV.bool false))])]) [])) ∧ (((decide ((((ByteArray.size s) : Nat) : Int) < 1)) = false) → ((((decide ((64 : Int) < (((ByteArray.size s) : Nat) : Int))) = true) → (R (TV.tup [(true, [(AV.fz (FV.int .i64 0)), (AV.fz (FV.str (ByteArray.mk #[]))), (AV.fz (FV.bool false)), (AV.fz (FV.sl 1 ([] : LL))), (AV.fz (FV.sl 6 ([] : LL))), (AV.fz (FV.int .i64 0))]), (false, [(AV.fz (FV.bool false))])]) [])) ∧ (((decide ((64 : Int) < (((ByteArray.size s) : Nat) : Int))) = false) → (((((ByteArray.toList s) == (ByteArray.toList (ByteArray.mk #[46]))) = true) → (R (TV.tup [(true, [(AV.fz (FV.int .i64 0)), (AV.fz (FV.str (ByteArray.mk #[]))), (AV.fz (FV.bool false)), (AV.fz (FV.sl 1 ([] : LL))), (AV.fz (FV.sl 6 ([] : LL))), (AV.fz (FV.int .i64 0))]), (false, [(AV.fz (FV.bool false))])]) [])) ∧ ((((ByteArray.toList s) == (ByteArray.toList (ByteArray.mk #[46]))) = false) → (((0 : Int) ≤ 0) ∧ (∃ c3 : UInt8, ((((ByteArray.data s))[(Int.toNat 0)]? = (some c3)) ∧ (((((((UInt8.toNat c3) : Nat) : Int) == 35) = true) → (R (TV.tup [(true, [(AV.fz (FV.int .i64 0)), (AV.fz (FV.str (ByteArray.mk #[]))), (AV.fz (FV.bool false)), (AV.fz (FV.sl 1 ([] : LL))), (AV.fz (FV.sl 6 ([] : LL))), (AV.fz (FV.int .i64 0))]), (false, [(AV.fz (FV.bool false))])]) [])) ∧ ((((((UInt8.toNat c3) : Nat) : Int) == 35) = false) → (∃ b15 : Bool, ((Fn Tryz.prog 107 [(TV.one (AV.fz (FV.str s))), (TV.one (AV.fz (FV.int .i64 0)))] [] (TV.one (AV.fz (FV.bool b15))) []) ∧ (((b15 = true) → (R (TV.tup [(true, [(AV.fz (FV.int .i64 0)), (AV.fz (FV.str (ByteArray.mk #[]))), (AV.fz (FV.bool false)), (AV.fz (FV.sl 1 ([] : LL))), (AV.fz (FV.sl 6 ([] : LL))), (AV.fz (FV.int .i64 0))]), (false, [(AV.fz (FV.bool false))])]) [])) ∧ ((b15 = false) → (((0 : Int) ≤ 0) ∧ (∃ c4 : UInt8, ((((ByteArray.data s))[(Int.toNat 0)]? = (some c4)) ∧ (((((((UInt8.toNat c4) : Nat) : Int) == 43) = true) → (∃ b16 : Bool, ((Fn Tryz.prog 107 [(TV.one (AV.fz (FV.str s))), (TV.one (AV.fz (FV.int .i64 1)))] [] (TV.one (AV.fz (FV.bool b16))) []) ∧ (((b16 = true) → (R (TV.tup [(true, [(AV.fz (FV.int .i64 0)), (AV.fz (FV.str (ByteArray.mk #[]))), (AV.fz (FV.bool false)), (AV.fz (FV.sl 1 ([] : LL))), (AV.fz (FV.sl 6 ([] : LL))), (AV.fz (FV.int .i64 0))]), (false, [(AV.fz (FV.bool false))])]) [])) ∧ ((b16 = false) → (∃ es5 : LL, (∃ n5 : Int, ((Fn Tryz.prog 45 [(TV.one (AV.fz (FV.sl 1 (List.map (fun b18 => [(FV.int .u8 (((UInt8.toNat b18) : Nat) : Int))]) (Array.toList (ByteArray.data s))))))] [] (TV.tup [(false, [(AV.fz (FV.sl 1 es5))]), (false, [(AV.fz (FV.int .i64 n5))])]) []) ∧ ((((decide ((0 : Int) ≤ n5)) = true) → (R (TV.tup [(true, [(AV.fz (FV.int .i64 0)), (AV.fz (FV.str (ByteArray.mk #[]))), (AV.fz (FV.bool false)), (AV.fz (FV.sl 1 ([] : LL))), (AV.fz (FV.sl 6 ([] : LL))), (AV.fz (FV.int .i64 0))]), (false, [(AV.fz (FV.bool false))])]) [])) ∧ (((decide ((0 : Int) ≤ n5)) = false) → (ref02_Atom_L0 R s es5 0))))))))))) ∧ ((((((UInt8.toNat c4) : Nat) : Int) == 43) = false) → (((0 : Int) ≤ 0) ∧ (∃ c5 : UInt8, ((((ByteArray.data s))[(Int.toNat 0)]? = (some c5)) ∧ (((((((UInt8.toNat c5) : Nat) : Int) == 45) = true) → (∃ b19 : Bool, ((Fn Tryz.prog 107 [(TV.one (AV.fz (FV.str s))), (TV.one (AV.fz (FV.int .i64 1)))] [] (TV.one (AV.fz (FV.bool b19))) []) ∧ (((b19 = true) → (R (TV.tup [(true, [(AV.fz (FV.int .i64 0)), (AV.fz (FV.str (ByteArray.mk #[]))), (AV.fz (FV.bool false)), (AV.fz (FV.sl 1 ([] : LL))), (AV.fz (FV.sl 6 ([] : LL))), (AV.fz (FV.int .i64 0))]), (false, [(AV.fz (FV.bool false))])]) [])) ∧ ((b19 = false) → (∃ es6 : LL, (∃ n6 : Int, ((Fn Tryz.prog 45 [(TV.one (AV.fz (FV.sl 1 (List.map (fun b21 => [(FV.int .u8 (((UInt8.toNat b21) : Nat) : Int))]) (Array.toList (ByteArray.data s))))))] [] (TV.tup [(false, [(AV.fz (FV.sl 1 es6))]), (false, [(AV.fz (FV.int .i64 n6))])]) []) ∧ ((((decide ((0 : Int) ≤ n6)) = true) → (R (TV.tup [(true, [(AV.fz (FV.int .i64 0)), (AV.fz (FV.str (ByteArray.mk #[]))), (AV.fz (FV.bool false)), (AV.fz (FV.sl 1 ([] : LL))), (AV.fz (FV.sl 6 ([] : LL))), (AV.fz (FV.int .i64 0))]), (false, [(AV.fz (FV.bool false))])]) [])) ∧ (((decide ((0 : Int) ≤ n6)) = false) → (ref02_Atom_L0 R s es6 0))))))))))) ∧ ((((((UInt8.toNat c5) : Nat) : Int) == 45) = false) → (∃ es7 : LL, (∃ n7 : Int, ((Fn Tryz.prog 45 [(TV.one (AV.fz (FV.sl 1 (List.map (fun b23 => [(FV.int .u8 (((UInt8.toNat b23) : Nat) : Int))]) (Array.toList (ByteArray.data s))))))] [] (TV.tup [(false, [(AV.fz (FV.sl 1 es7))]), (false, [(AV.fz (FV.int .i64 n7))])]) []) ∧ ((((decide ((0 : Int) ≤ n7)) = true) → (R (TV.tup [(true, [(AV.fz (FV.int .i64 0)), (AV.fz (FV.str (ByteArray.mk #[]))), (AV.fz (FV.bool false)), (AV.fz (FV.sl 1 ([] : LL))), (AV.fz (FV.sl 6 ([] : LL))), (AV.fz (FV.int .i64 0))]), (false, [(AV.fz (FV.bool false))])]) [])) ∧ (((decide ((0 : Int) ≤ n7)) = false) → (ref02_Atom_L0 R s es7 0)))))))))))))))))))))))))))))))))))))))))))))
theorem ref02_Atom_fn (s : ByteArray) {r : TV} {h : List Ob} (H : ref02_Atom_H (fun r' h' => r' = r ∧ h' = h) s) : Fn Tryz.prog 74 [(TV.one (AV.fz (FV.str s)))] [] r h :=
 Fn.by_tr (M := (modeOf [] [])) (lv := ref02_Atom_lv) (own := none) (F := Tryz.f74) (by kernel_rfl) (by kernel_rfl) (by first | decide | simp) (fun _ _ h => h) (by kernel_rfl) H
def ref02_Chars_lv : List Nat → Keep := lvOf [([0, 0, 1, 1, 1], ⟨49, 0, [], false, false⟩)]
def ref02_Chars_S0 (b : LL) (at_ : Int) (o : LL) : St := (St.mk [(TV.one (AV.fz (FV.sl 1 b))), TV.und, TV.und, TV.und, (TV.one (AV.ofl 1 0)), (TV.one (AV.fz (FV.int .i64 at_))), TV.und, TV.und, TV.und, TV.und, TV.und, TV.und, TV.und, TV.und, TV.und, TV.und, TV.und, TV.und, TV.und, TV.und, TV.und, TV.und, TV.und, TV.und, TV.und, TV.und, TV.und, TV.und, TV.und] [(Ob.f 0 1 o)])
def ref02_Chars_L0 (R : TV → List Ob → Prop) (b : LL) (at_ : Int) (o : LL) : Prop := LoopAt Tryz.prog (modeOf [] []) ref02_Chars_lv Tryz.f45 none R [1, 1, 1, 0, 0] (ref02_Chars_S0 b at_ o)
def ref02_Chars_R0 (R : TV → List Ob → Prop) (b : List (List FV)) (at_ : Int) (o : List (List FV)) : Prop :=
 ((((decide (at_ < (((List.length b) : Nat) : Int))) = true) → (∃ n4 : Int, (∃ n5 : Int, ((Fn Tryz.prog 76 [(TV.one (AV.fz (FV.sl 1 b))), (TV.one (AV.fz (FV.int .i64 at_)))] [] (TV.tup [(false, [(AV.fz (FV.int .i64 n4))]), (false, [(AV.fz (FV.int .i64 n5))])]) []) ∧ ((((n5 == 0) = true) → (R (TV.tup [(false, [(AV.fz (FV.sl 1 ([] : LL)))]), (false, [(AV.fz (FV.int .i64 at_))])]) [])) ∧ (((n5 == 0) = false) → (((((List.length o) + (List.length [[(FV.int .i64 n4)]])) * 8) ≤ 220000000000000) ∧ (ref02_Chars_L0 R b (IntKind.wrap .i64 (at_ + n5)) (o ++ [[(FV.int .i64 n4)]]))))))))) ∧ (((decide (at_ < (((List.length b) : Nat) : Int))) = false) → (R (TV.tup [(false, [(AV.fz (FV.sl 1 o))]), (false, [(AV.fz (FV.int .i64 (-1)))])]) [])))
theorem ref02_Chars_l0 {R : TV → List Ob → Prop} {b : LL} {at_ : Int} {o : LL} (h : ref02_Chars_R0 R b at_ o) : ref02_Chars_L0 R b at_ o :=
 LoopAt.by_tr (by kernel_rfl) (by kernel_rfl) h
def ref02_Chars_H (R : TV → List Ob → Prop) (b : List (List FV)) : Prop :=
 (ref02_Chars_L0 R b 0 ([] : List (List FV)))
theorem ref02_Chars_fn (b : LL) {r : TV} {h : List Ob} (H : ref02_Chars_H (fun r' h' => r' = r ∧ h' = h) b) : Fn Tryz.prog 45 [(TV.one (AV.fz (FV.sl 1 b)))] [] r h :=
 Fn.by_tr (M := (modeOf [] [])) (lv := ref02_Chars_lv) (own := none) (F := Tryz.f45) (by kernel_rfl) (by kernel_rfl) (by first | decide | simp) (fun _ _ h => h) (by kernel_rfl) H
def ref02_digit_lv : List Nat → Keep := lvOf []
def ref02_digit_H (R : TV → List Ob → Prop) (s : ByteArray) (i : Int) : Prop :=
 ((((decide (i < (((ByteArray.size s) : Nat) : Int))) = true) → (((0 : Int) ≤ i) ∧ (∃ c2 : UInt8, ((((ByteArray.data s))[(Int.toNat i)]? = (some c2)) ∧ ((((decide ((48 : Int) ≤ (((UInt8.toNat c2) : Nat) : Int))) = true) → (((0 : Int) ≤ i) ∧ (∃ c3 : UInt8, ((((ByteArray.data s))[(Int.toNat i)]? = (some c3)) ∧ (R (TV.one (AV.fz (FV.bool (decide ((((UInt8.toNat c3) : Nat) : Int) ≤ 57))))) []))))) ∧ (((decide ((48 : Int) ≤ (((UInt8.toNat c2) : Nat) : Int))) = false) → (R (TV.one (AV.fz (FV.bool false))) []))))))) ∧ (((decide (i < (((ByteArray.size s) : Nat) : Int))) = false) → (R (TV.one (AV.fz (FV.bool false))) [])))
theorem ref02_digit_fn (s : ByteArray) (i : Int) {r : TV} {h : List Ob} (H : ref02_digit_H (fun r' h' => r' = r ∧ h' = h) s i) : Fn Tryz.prog 107 [(TV.one (AV.fz (FV.str s))), (TV.one (AV.fz (FV.int .i64 i)))] [] r h :=
 Fn.by_tr (M := (modeOf [] [])) (lv := ref02_digit_lv) (own := none) (F := Tryz.f107) (by kernel_rfl) (by kernel_rfl) (by first | decide | simp) (fun _ _ h => h) (by kernel_rfl) H
def ref02_Ends_lv : List Nat → Keep := lvOf []
def ref02_Ends_H (R : TV → List Ob → Prop) (c : Int) : Prop :=
 (∃ b1 : Bool, ((Fn Tryz.prog 136 [(TV.one (AV.fz (FV.int .i64 c)))] [] (TV.one (AV.fz (FV.bool b1))) []) ∧ (((b1 = true) → (R (TV.one (AV.fz (FV.bool true))) [])) ∧ ((b1 = false) → ((((c == 40) = true) → (R (TV.one (AV.fz (FV.bool true))) [])) ∧ (((c == 40) = false) → ((((c == 41) = true) → (R (TV.one (AV.fz (FV.bool true))) [])) ∧ (((c == 41) = false) → ((((c == 59) = true) → (R (TV.one (AV.fz (FV.bool true))) [])) ∧ (((c == 59) = false) → ((((c == 34) = true) → (R (TV.one (AV.fz (FV.bool true))) [])) ∧ (((c == 34) = false) → ((((c == 39) = true) → (R (TV.one (AV.fz (FV.bool true))) [])) ∧ (((c == 39) = false) → ((((c == 96) = true) → (R (TV.one (AV.fz (FV.bool true))) [])) ∧ (((c == 96) = false) → (R (TV.one (AV.fz (FV.bool (c == 44)))) [])))))))))))))))))
theorem ref02_Ends_fn (c : Int) {r : TV} {h : List Ob} (H : ref02_Ends_H (fun r' h' => r' = r ∧ h' = h) c) : Fn Tryz.prog 108 [(TV.one (AV.fz (FV.int .i64 c)))] [] r h :=
 Fn.by_tr (M := (modeOf [] [])) (lv := ref02_Ends_lv) (own := none) (F := Tryz.f108) (by kernel_rfl) (by kernel_rfl) (by first | decide | simp) (fun _ _ h => h) (by kernel_rfl) H
def ref02_one_lv : List Nat → Keep := lvOf [([0, 1, 0, 1, 1, 1, 1, 1], ⟨451, 0, [], false, false⟩)]
def ref02_one_S0 (b : LL) (at_ : Int) (c : Int) (n2 : Int) (i : Int) : St := (St.mk [(TV.one (AV.fz (FV.sl 1 b))), (TV.one (AV.fz (FV.int .i64 at_))), TV.und, TV.und, TV.und, TV.und, (TV.one (AV.fz (FV.int .i64 c))), (TV.one (AV.fz (FV.int .i64 n2))), (TV.one (AV.fz (FV.int .i64 i))), TV.und, TV.und, TV.und, TV.und, TV.und, TV.und, TV.und, TV.und, TV.und, TV.und, TV.und, TV.und, TV.und, TV.und, TV.und, TV.und, TV.und, TV.und, TV.und, TV.und, TV.und, TV.und, TV.und, TV.und, TV.und, TV.und, TV.und, TV.und, TV.und, TV.und, TV.und, TV.und, TV.und, TV.und, TV.und, TV.und, TV.und, TV.und, TV.und, TV.und, TV.und, TV.und, TV.und, TV.und, TV.und, TV.und, TV.und, TV.und, TV.und, TV.und, TV.und, TV.und, TV.und, TV.und, TV.und, TV.und, TV.und, TV.und, TV.und, TV.und, TV.und, TV.und, TV.und, TV.und, TV.und, TV.und, TV.und, TV.und, TV.und, TV.und, TV.und, TV.und, TV.und, TV.und, TV.und, TV.und, TV.und] [])
def ref02_one_L0 (R : TV → List Ob → Prop) (b : LL) (at_ : Int) (c : Int) (n2 : Int) (i : Int) : Prop := LoopAt Tryz.prog (modeOf [] []) ref02_one_lv Tryz.f76 none R [1, 1, 1, 1, 1, 0, 1, 0] (ref02_one_S0 b at_ c n2 i)
def ref02_one_R0 (R : TV → List Ob → Prop) (b : List (List FV)) (at_ : Int) (c : Int) (n2 : Int) (i : Int) : Prop :=
 ((((decide (i < n2)) = true) → (((0 : Int) ≤ (IntKind.wrap .i64 (at_ + i))) ∧ (∃ n5 : Int, (((b)[(Int.toNat (IntKind.wrap .i64 (at_ + i)))]? = (some [(FV.int .u8 n5)])) ∧ ((((decide ((IntKind.wrap .i64 n5) < 128)) = true) → (R (TV.tup [(false, [(AV.fz (FV.int .i64 0))]), (false, [(AV.fz (FV.int .i64 0))])]) [])) ∧ (((decide ((IntKind.wrap .i64 n5) < 128)) = false) → ((((decide ((192 : Int) ≤ (IntKind.wrap .i64 n5))) = true) → (R (TV.tup [(false, [(AV.fz (FV.int .i64 0))]), (false, [(AV.fz (FV.int .i64 0))])]) [])) ∧ (((decide ((192 : Int) ≤ (IntKind.wrap .i64 n5))) = false) → (ref02_one_L0 R b at_ (IntKind.wrap .i64 ((IntKind.wrap .i64 ((IntKind.wrap .i64 (c * 64)) + (IntKind.wrap .i64 n5))) - 128)) n2 (IntKind.wrap .i64 (i + 1))))))))))) ∧ (((decide (i < n2)) = false) → (∃ b4 : Bool, ((Fn Tryz.prog 79 [(TV.one (AV.fz (FV.int .i64 c)))] [] (TV.one (AV.fz (FV.bool b4))) []) ∧ ((((Bool.not b4) = true) → (R (TV.tup [(false, [(AV.fz (FV.int .i64 0))]), (false, [(AV.fz (FV.int .i64 0))])]) [])) ∧ (((Bool.not b4) = false) → (∃ es3 : LL, ((Fn Tryz.prog 77 [(TV.one (AV.fz (FV.int .i64 c)))] [] (TV.one (AV.fz (FV.sl 1 es3))) []) ∧ (((((((List.length es3) : Nat) : Int) != n2) = true) → (R (TV.tup [(false, [(AV.fz (FV.int .i64 0))]), (false, [(AV.fz (FV.int .i64 0))])]) [])) ∧ ((((((List.length es3) : Nat) : Int) != n2) = false) → (R (TV.tup [(false, [(AV.fz (FV.int .i64 c))]), (false, [(AV.fz (FV.int .i64 n2))])]) [])))))))))))
theorem ref02_one_l0 {R : TV → List Ob → Prop} {b : LL} {at_ : Int} {c : Int} {n2 : Int} {i : Int} (h : ref02_one_R0 R b at_ c n2 i) : ref02_one_L0 R b at_ c n2 i :=
 LoopAt.by_tr (by kernel_rfl) (by kernel_rfl) h
def ref02_one_H (R : TV → List Ob → Prop) (b : List (List FV)) (at_ : Int) : Prop :=
 (((0 : Int) ≤ at_) ∧ (∃ n5 : Int, (((b)[(Int.toNat at_)]? = (some [(FV.int .u8 n5)])) ∧ ((((decide ((240 : Int) ≤ (IntKind.wrap .i64 n5))) = true) → ((((decide ((IntKind.wrap .i64 n5) < 248)) = true) → ((((decide ((((List.length b) : Nat) : Int) < (IntKind.wrap .i64 (at_ + 4)))) = true) → (R (TV.tup [(false, [(AV.fz (FV.int .i64 0))]), (false, [(AV.fz (FV.int .i64 0))])]) [])) ∧ (((decide ((((List.length b) : Nat) : Int) < (IntKind.wrap .i64 (at_ + 4)))) = false) → (ref02_one_L0 R b at_ (IntKind.wrap .i64 ((IntKind.wrap .i64 n5) - 240)) 4 1)))) ∧ (((decide ((IntKind.wrap .i64 n5) < 248)) = false) → ((((decide ((224 : Int) ≤ (IntKind.wrap .i64 n5))) = true) → ((((decide ((IntKind.wrap .i64 n5) < 240)) = true) → ((((decide ((((List.length b) : Nat) : Int) < (IntKind.wrap .i64 (at_ + 3)))) = true) → (R (TV.tup [(false, [(AV.fz (FV.int .i64 0))]), (false, [(AV.fz (FV.int .i64 0))])]) [])) ∧ (((decide ((((List.length b) : Nat) : Int) < (IntKind.wrap .i64 (at_ + 3)))) = false) → (ref02_one_L0 R b at_ (IntKind.wrap .i64 ((IntKind.wrap .i64 n5) - 224)) 3 1)))) ∧ (((decide ((IntKind.wrap .i64 n5) < 240)) = false) → ((((decide ((192 : Int) ≤ (IntKind.wrap .i64 n5))) = true) → ((((decide ((IntKind.wrap .i64 n5) < 224)) = true) → ((((decide ((((List.length b) : Nat) : Int) < (IntKind.wrap .i64 (at_ + 2)))) = true) → (R (TV.tup [(false, [(AV.fz (FV.int .i64 0))]), (false, [(AV.fz (FV.int .i64 0))])]) [])) ∧ (((decide ((((List.length b) : Nat) : Int) < (IntKind.wrap .i64 (at_ + 2)))) = false) → (ref02_one_L0 R b at_ (IntKind.wrap .i64 ((IntKind.wrap .i64 n5) - 192)) 2 1)))) ∧ (((decide ((IntKind.wrap .i64 n5) < 224)) = false) → ((((decide ((128 : Int) ≤ (IntKind.wrap .i64 n5))) = true) → (R (TV.tup [(false, [(AV.fz (FV.int .i64 0))]), (false, [(AV.fz (FV.int .i64 0))])]) [])) ∧ (((decide ((128 : Int) ≤ (IntKind.wrap .i64 n5))) = false) → ((((decide ((((List.length b) : Nat) : Int) < (IntKind.wrap .i64 (at_ + 1)))) = true) → (R (TV.tup [(false, [(AV.fz (FV.int .i64 0))]), (false, [(AV.fz (FV.int .i64 0))])]) [])) ∧ (((decide ((((List.length b) : Nat) : Int) < (IntKind.wrap .i64 (at_ + 1)))) = false) → (ref02_one_L0 R b at_ (IntKind.wrap .i64 n5) 1 1)))))))) ∧ (((decide ((192 : Int) ≤ (IntKind.wrap .i64 n5))) = false) → ((((decide ((128 : Int) ≤ (IntKind.wrap .i64 n5))) = true) → (R (TV.tup [(false, [(AV.fz (FV.int .i64 0))]), (false, [(AV.fz (FV.int .i64 0))])]) [])) ∧ (((decide ((128 : Int) ≤ (IntKind.wrap .i64 n5))) = false) → ((((decide ((((List.length b) : Nat) : Int) < (IntKind.wrap .i64 (at_ + 1)))) = true) → (R (TV.tup [(false, [(AV.fz (FV.int .i64 0))]), (false, [(AV.fz (FV.int .i64 0))])]) [])) ∧ (((decide ((((List.length b) : Nat) : Int) < (IntKind.wrap .i64 (at_ + 1)))) = false) → (ref02_one_L0 R b at_ (IntKind.wrap .i64 n5) 1 1)))))))))) ∧ (((decide ((224 : Int) ≤ (IntKind.wrap .i64 n5))) = false) → ((((decide ((192 : Int) ≤ (IntKind.wrap .i64 n5))) = true) → ((((decide ((IntKind.wrap .i64 n5) < 224)) = true) → ((((decide ((((List.length b) : Nat) : Int) < (IntKind.wrap .i64 (at_ + 2)))) = true) → (R (TV.tup [(false, [(AV.fz (FV.int .i64 0))]), (false, [(AV.fz (FV.int .i64 0))])]) [])) ∧ (((decide ((((List.length b) : Nat) : Int) < (IntKind.wrap .i64 (at_ + 2)))) = false) → (ref02_one_L0 R b at_ (IntKind.wrap .i64 ((IntKind.wrap .i64 n5) - 192)) 2 1)))) ∧ (((decide ((IntKind.wrap .i64 n5) < 224)) = false) → ((((decide ((128 : Int) ≤ (IntKind.wrap .i64 n5))) = true) → (R (TV.tup [(false, [(AV.fz (FV.int .i64 0))]), (false, [(AV.fz (FV.int .i64 0))])]) [])) ∧ (((decide ((128 : Int) ≤ (IntKind.wrap .i64 n5))) = false) → ((((decide ((((List.length b) : Nat) : Int) < (IntKind.wrap .i64 (at_ + 1)))) = true) → (R (TV.tup [(false, [(AV.fz (FV.int .i64 0))]), (false, [(AV.fz (FV.int .i64 0))])]) [])) ∧ (((decide ((((List.length b) : Nat) : Int) < (IntKind.wrap .i64 (at_ + 1)))) = false) → (ref02_one_L0 R b at_ (IntKind.wrap .i64 n5) 1 1)))))))) ∧ (((decide ((192 : Int) ≤ (IntKind.wrap .i64 n5))) = false) → ((((decide ((128 : Int) ≤ (IntKind.wrap .i64 n5))) = true) → (R (TV.tup [(false, [(AV.fz (FV.int .i64 0))]), (false, [(AV.fz (FV.int .i64 0))])]) [])) ∧ (((decide ((128 : Int) ≤ (IntKind.wrap .i64 n5))) = false) → ((((decide ((((List.length b) : Nat) : Int) < (IntKind.wrap .i64 (at_ + 1)))) = true) → (R (TV.tup [(false, [(AV.fz (FV.int .i64 0))]), (false, [(AV.fz (FV.int .i64 0))])]) [])) ∧ (((decide ((((List.length b) : Nat) : Int) < (IntKind.wrap .i64 (at_ + 1)))) = false) → (ref02_one_L0 R b at_ (IntKind.wrap .i64 n5) 1 1)))))))))))) ∧ (((decide ((240 : Int) ≤ (IntKind.wrap .i64 n5))) = false) → ((((decide ((224 : Int) ≤ (IntKind.wrap .i64 n5))) = true) → ((((decide ((IntKind.wrap .i64 n5) < 240)) = true) → ((((decide ((((List.length b) : Nat) : Int) < (IntKind.wrap .i64 (at_ + 3)))) = true) → (R (TV.tup [(false, [(AV.fz (FV.int .i64 0))]), (false, [(AV.fz (FV.int .i64 0))])]) [])) ∧ (((decide ((((List.length b) : Nat) : Int) < (IntKind.wrap .i64 (at_ + 3)))) = false) → (ref02_one_L0 R b at_ (IntKind.wrap .i64 ((IntKind.wrap .i64 n5) - 224)) 3 1)))) ∧ (((decide ((IntKind.wrap .i64 n5) < 240)) = false) → ((((decide ((192 : Int) ≤ (IntKind.wrap .i64 n5))) = true) → ((((decide ((IntKind.wrap .i64 n5) < 224)) = true) → ((((decide ((((List.length b) : Nat) : Int) < (IntKind.wrap .i64 (at_ + 2)))) = true) → (R (TV.tup [(false, [(AV.fz (FV.int .i64 0))]), (false, [(AV.fz (FV.int .i64 0))])]) [])) ∧ (((decide ((((List.length b) : Nat) : Int) < (IntKind.wrap .i64 (at_ + 2)))) = false) → (ref02_one_L0 R b at_ (IntKind.wrap .i64 ((IntKind.wrap .i64 n5) - 192)) 2 1)))) ∧ (((decide ((IntKind.wrap .i64 n5) < 224)) = false) → ((((decide ((128 : Int) ≤ (IntKind.wrap .i64 n5))) = true) → (R (TV.tup [(false, [(AV.fz (FV.int .i64 0))]), (false, [(AV.fz (FV.int .i64 0))])]) [])) ∧ (((decide ((128 : Int) ≤ (IntKind.wrap .i64 n5))) = false) → ((((decide ((((List.length b) : Nat) : Int) < (IntKind.wrap .i64 (at_ + 1)))) = true) → (R (TV.tup [(false, [(AV.fz (FV.int .i64 0))]), (false, [(AV.fz (FV.int .i64 0))])]) [])) ∧ (((decide ((((List.length b) : Nat) : Int) < (IntKind.wrap .i64 (at_ + 1)))) = false) → (ref02_one_L0 R b at_ (IntKind.wrap .i64 n5) 1 1)))))))) ∧ (((decide ((192 : Int) ≤ (IntKind.wrap .i64 n5))) = false) → ((((decide ((128 : Int) ≤ (IntKind.wrap .i64 n5))) = true) → (R (TV.tup [(false, [(AV.fz (FV.int .i64 0))]), (false, [(AV.fz (FV.int .i64 0))])]) [])) ∧ (((decide ((128 : Int) ≤ (IntKind.wrap .i64 n5))) = false) → ((((decide ((((List.length b) : Nat) : Int) < (IntKind.wrap .i64 (at_ + 1)))) = true) → (R (TV.tup [(false, [(AV.fz (FV.int .i64 0))]), (false, [(AV.fz (FV.int .i64 0))])]) [])) ∧ (((decide ((((List.length b) : Nat) : Int) < (IntKind.wrap .i64 (at_ + 1)))) = false) → (ref02_one_L0 R b at_ (IntKind.wrap .i64 n5) 1 1)))))))))) ∧ (((decide ((224 : Int) ≤ (IntKind.wrap .i64 n5))) = false) → ((((decide ((192 : Int) ≤ (IntKind.wrap .i64 n5))) = true) → ((((decide ((IntKind.wrap .i64 n5) < 224)) = true) → ((((decide ((((List.length b) : Nat) : Int) < (IntKind.wrap .i64 (at_ + 2)))) = true) → (R (TV.tup [(false, [(AV.fz (FV.int .i64 0))]), (false, [(AV.fz (FV.int .i64 0))])]) [])) ∧ (((decide ((((List.length b) : Nat) : Int) < (IntKind.wrap .i64 (at_ + 2)))) = false) → (ref02_one_L0 R b at_ (IntKind.wrap .i64 ((IntKind.wrap .i64 n5) - 192)) 2 1)))) ∧ (((decide ((IntKind.wrap .i64 n5) < 224)) = false) → ((((decide ((128 : Int) ≤ (IntKind.wrap .i64 n5))) = true) → (R (TV.tup [(false, [(AV.fz (FV.int .i64 0))]), (false, [(AV.fz (FV.int .i64 0))])]) [])) ∧ (((decide ((128 : Int) ≤ (IntKind.wrap .i64 n5))) = false) → ((((decide ((((List.length b) : Nat) : Int) < (IntKind.wrap .i64 (at_ + 1)))) = true) → (R (TV.tup [(false, [(AV.fz (FV.int .i64 0))]), (false, [(AV.fz (FV.int .i64 0))])]) [])) ∧ (((decide ((((List.length b) : Nat) : Int) < (IntKind.wrap .i64 (at_ + 1)))) = false) → (ref02_one_L0 R b at_ (IntKind.wrap .i64 n5) 1 1)))))))) ∧ (((decide ((192 : Int) ≤ (IntKind.wrap .i64 n5))) = false) → ((((decide ((128 : Int) ≤ (IntKind.wrap .i64 n5))) = true) → (R (TV.tup [(false, [(AV.fz (FV.int .i64 0))]), (false, [(AV.fz (FV.int .i64 0))])]) [])) ∧ (((decide ((128 : Int) ≤ (IntKind.wrap .i64 n5))) = false) → ((((decide ((((List.length b) : Nat) : Int) < (IntKind.wrap .i64 (at_ + 1)))) = true) → (R (TV.tup [(false, [(AV.fz (FV.int .i64 0))]), (false, [(AV.fz (FV.int .i64 0))])]) [])) ∧ (((decide ((((List.length b) : Nat) : Int) < (IntKind.wrap .i64 (at_ + 1)))) = false) → (ref02_one_L0 R b at_ (IntKind.wrap .i64 n5) 1 1))))))))))))))
theorem ref02_one_fn (b : LL) (at_ : Int) {r : TV} {h : List Ob} (H : ref02_one_H (fun r' h' => r' = r ∧ h' = h) b at_) : Fn Tryz.prog 76 [(TV.one (AV.fz (FV.sl 1 b))), (TV.one (AV.fz (FV.int .i64 at_)))] [] r h :=
 Fn.by_tr (M := (modeOf [] [])) (lv := ref02_one_lv) (own := none) (F := Tryz.f76) (by kernel_rfl) (by kernel_rfl) (by first | decide | simp) (fun _ _ h => h) (by kernel_rfl) H
def ref02_Blank_lv : List Nat → Keep := lvOf []
def ref02_Blank_H (R : TV → List Ob → Prop) (c : Int) : Prop :=
 ((((c == 9) = true) → (R (TV.one (AV.fz (FV.bool true))) [])) ∧ (((c == 9) = false) → ((((c == 10) = true) → (R (TV.one (AV.fz (FV.bool true))) [])) ∧ (((c == 10) = false) → ((((c == 13) = true) → (R (TV.one (AV.fz (FV.bool true))) [])) ∧ (((c == 13) = false) → (R (TV.one (AV.fz (FV.bool (c == 32)))) [])))))))
theorem ref02_Blank_fn (c : Int) {r : TV} {h : List Ob} (H : ref02_Blank_H (fun r' h' => r' = r ∧ h' = h) c) : Fn Tryz.prog 136 [(TV.one (AV.fz (FV.int .i64 c)))] [] r h :=
 Fn.by_tr (M := (modeOf [] [])) (lv := ref02_Blank_lv) (own := none) (F := Tryz.f136) (by kernel_rfl) (by kernel_rfl) (by first | decide | simp) (fun _ _ h => h) (by kernel_rfl) H
def ref02_Scalar_lv : List Nat → Keep := lvOf []
def ref02_Scalar_H (R : TV → List Ob → Prop) (c : Int) : Prop :=
 ((((decide ((0 : Int) ≤ c)) = true) → ((((decide (c ≤ 1114111)) = true) → ((((decide ((55296 : Int) ≤ c)) = true) → (R (TV.one (AV.fz (FV.bool (Bool.not (decide (c ≤ 57343)))))) [])) ∧ (((decide ((55296 : Int) ≤ c)) = false) → (R (TV.one (AV.fz (FV.bool true))) [])))) ∧ (((decide (c ≤ 1114111)) = false) → (R (TV.one (AV.fz (FV.bool false))) [])))) ∧ (((decide ((0 : Int) ≤ c)) = false) → (R (TV.one (AV.fz (FV.bool false))) [])))
theorem ref02_Scalar_fn (c : Int) {r : TV} {h : List Ob} (H : ref02_Scalar_H (fun r' h' => r' = r ∧ h' = h) c) : Fn Tryz.prog 79 [(TV.one (AV.fz (FV.int .i64 c)))] [] r h :=
 Fn.by_tr (M := (modeOf [] [])) (lv := ref02_Scalar_lv) (own := none) (F := Tryz.f79) (by kernel_rfl) (by kernel_rfl) (by first | decide | simp) (fun _ _ h => h) (by kernel_rfl) H
def ref02_Bytes_lv : List Nat → Keep := lvOf []
def ref02_Bytes_H (R : TV → List Ob → Prop) (c : Int) : Prop :=
 ((((decide (c < 128)) = true) → (R (TV.one (AV.fz (FV.sl 1 [[(FV.int .u8 (IntKind.wrap .u8 c))]]))) [])) ∧ (((decide (c < 128)) = false) → ((((decide (c < 2048)) = true) → (((64 : Int) ≠ 0) ∧ (((64 : Int) ≠ 0) ∧ (R (TV.one (AV.fz (FV.sl 1 [[(FV.int .u8 (IntKind.wrap .u8 (IntKind.wrap .i64 (192 + (IntKind.wrap .i64 (Int.tdiv c 64))))))], [(FV.int .u8 (IntKind.wrap .u8 (IntKind.wrap .i64 (128 + (Int.tmod c 64)))))]]))) [])))) ∧ (((decide (c < 2048)) = false) → ((((decide (c < 65536)) = true) → (((4096 : Int) ≠ 0) ∧ (((64 : Int) ≠ 0) ∧ (((64 : Int) ≠ 0) ∧ (((64 : Int) ≠ 0) ∧ (R (TV.one (AV.fz (FV.sl 1 [[(FV.int .u8 (IntKind.wrap .u8 (IntKind.wrap .i64 (224 + (IntKind.wrap .i64 (Int.tdiv c 4096))))))], [(FV.int .u8 (IntKind.wrap .u8 (IntKind.wrap .i64 (128 + (Int.tmod (IntKind.wrap .i64 (Int.tdiv c 64)) 64)))))], [(FV.int .u8 (IntKind.wrap .u8 (IntKind.wrap .i64 (128 + (Int.tmod c 64)))))]]))) [])))))) ∧ (((decide (c < 65536)) = false) → (((262144 : Int) ≠ 0) ∧ (((4096 : Int) ≠ 0) ∧ (((64 : Int) ≠ 0) ∧ (((64 : Int) ≠ 0) ∧ (((64 : Int) ≠ 0) ∧ (((64 : Int) ≠ 0) ∧ (R (TV.one (AV.fz (FV.sl 1 [[(FV.int .u8 (IntKind.wrap .u8 (IntKind.wrap .i64 (240 + (IntKind.wrap .i64 (Int.tdiv c 262144))))))], [(FV.int .u8 (IntKind.wrap .u8 (IntKind.wrap .i64 (128 + (Int.tmod (IntKind.wrap .i64 (Int.tdiv c 4096)) 64)))))], [(FV.int .u8 (IntKind.wrap .u8 (IntKind.wrap .i64 (128 + (Int.tmod (IntKind.wrap .i64 (Int.tdiv c 64)) 64)))))], [(FV.int .u8 (IntKind.wrap .u8 (IntKind.wrap .i64 (128 + (Int.tmod c 64)))))]]))) [])))))))))))))
theorem ref02_Bytes_fn (c : Int) {r : TV} {h : List Ob} (H : ref02_Bytes_H (fun r' h' => r' = r ∧ h' = h) c) : Fn Tryz.prog 77 [(TV.one (AV.fz (FV.int .i64 c)))] [] r h :=
 Fn.by_tr (M := (modeOf [] [])) (lv := ref02_Bytes_lv) (own := none) (F := Tryz.f77) (by kernel_rfl) (by kernel_rfl) (by first | decide | simp) (fun _ _ h => h) (by kernel_rfl) H
end Go.Proofs.YtenkkekooimpjaaGreatDoor.Ev
end
section
set_option linter.unusedVariables false
set_option maxRecDepth 100000
namespace Go.Proofs.YtenkkekooimpjaaGreatDoor.Ev
open Go
def slices_ContainsFunc_int_int_lv : List Nat → Keep := lvOf []
def slices_ContainsFunc_int_int_H (R : TV → List Ob → Prop) (s : List (List FV)) (f : FV) : Prop :=
 (∃ n1 : Int, ((Fn Tryz.prog 62 [(TV.one (AV.fz (FV.sl 1 s))), (TV.one (AV.fz f))] [] (TV.one (AV.fz (FV.int .i64 n1))) []) ∧ (R (TV.one (AV.fz (FV.bool (decide ((0 : Int) ≤ n1))))) [])))
theorem slices_ContainsFunc_int_int_fn (s : LL) (f : FV) {r : TV} {h : List Ob} (H : slices_ContainsFunc_int_int_H (fun r' h' => r' = r ∧ h' = h) s f) : Fn Tryz.prog 55 [(TV.one (AV.fz (FV.sl 1 s))), (TV.one (AV.fz f))] [] r h :=
 Fn.by_tr (M := (modeOf [] [])) (lv := slices_ContainsFunc_int_int_lv) (own := none) (F := Tryz.f55) (by kernel_rfl) (by kernel_rfl) (by first | decide | simp) (fun _ _ h => h) (by kernel_rfl) H
def ixEnds_lv : List Nat → Keep := lvOf [([0, 1, 0, 1], ⟨387, 0, [], false, false⟩)]
def ixEnds_S0 (s : LL) (i : Int) : St := (St.mk [(TV.one (AV.fz (FV.sl 1 s))), (TV.one (AV.fz (FV.fn 104 []))), TV.und, TV.und, TV.und, TV.und, TV.und, (TV.one (AV.fz (FV.int .i64 (((List.length s) : Nat) : Int)))), (TV.one (AV.fz (FV.int .i64 i))), TV.und, TV.und, TV.und, TV.und, TV.und, TV.und, TV.und, TV.und, TV.und, TV.und] [])
def ixEnds_L0 (R : TV → List Ob → Prop) (s : LL) (i : Int) : Prop := LoopAt Tryz.prog (modeOf [] []) ixEnds_lv Tryz.f62 none R [1, 0, 1, 0] (ixEnds_S0 s i)
def ixEnds_R0 (R : TV → List Ob → Prop) (s : List (List FV)) (i : Int) : Prop :=
 ((((decide (i < (((List.length s) : Nat) : Int))) = true) → (((0 : Int) ≤ i) ∧ (∃ n2 : Int, (((s)[(Int.toNat i)]? = (some [(FV.int .i64 n2)])) ∧ (∃ b2 : Bool, ((Fn Tryz.prog 104 [(TV.one (AV.fz (FV.int .i64 n2)))] [] (TV.one (AV.fz (FV.bool b2))) []) ∧ (((b2 = true) → (R (TV.one (AV.fz (FV.int .i64 i))) [])) ∧ ((b2 = false) → (ixEnds_L0 R s (IntKind.wrap .i64 (i + 1))))))))))) ∧ (((decide (i < (((List.length s) : Nat) : Int))) = false) → (R (TV.one (AV.fz (FV.int .i64 (-1)))) [])))
theorem ixEnds_l0 {R : TV → List Ob → Prop} {s : List (List FV)} {i : Int} (h : ixEnds_R0 R s i) : ixEnds_L0 R s i :=
 LoopAt.by_tr (by kernel_rfl) (by kernel_rfl) h
def ixEnds_H (R : TV → List Ob → Prop) (s : List (List FV)) : Prop :=
 (ixEnds_L0 R s 0)
theorem ixEnds_fn (s : LL) {r : TV} {h : List Ob} (H : ixEnds_H (fun r' h' => r' = r ∧ h' = h) s) : Fn Tryz.prog 62 [(TV.one (AV.fz (FV.sl 1 s))), (TV.one (AV.fz (FV.fn 104 [])))] [] r h :=
 Fn.by_tr (M := (modeOf [] [])) (lv := ixEnds_lv) (own := none) (F := Tryz.f62) (by kernel_rfl) (by kernel_rfl) (by first | decide | simp) (fun _ _ h => h) (by kernel_rfl) H
end Go.Proofs.YtenkkekooimpjaaGreatDoor.Ev
end
section
set_option linter.unusedVariables false
set_option linter.unusedSimpArgs false
namespace Go.Proofs.YtenkkekooimpjaaGreatDoor.Ev
open Go Go.RowKit
theorem flat2 {α : Type} (f g : Nat → α) : ∀ (n : Nat), (((List.range n).map fun i => [f i, g i]).flatten).length = 2 * n ∧ ∀ i, i < n → (((List.range n).map fun i => [f i, g i]).flatten)[2 * i]? = some (f i) ∧ (((List.range n).map fun i => [f i, g i]).flatten)[2 * i + 1]? = some (g i)
 | 0 => ⟨rfl, fun i h => by omega⟩
 | n + 1 => by
  obtain ⟨h1, h2⟩ := flat2 f g n
  rw [List.range_succ, List.map_append, List.flatten_append]
  refine ⟨by rw [List.length_append, h1]; simp; omega, fun i hi => ?_⟩
  by_cases h : i < n
  ·rw [List.getElem?_append_left (by omega), List.getElem?_append_left (by omega)]
   exact h2 i h
  ·have : i = n := by omega
   subst this
   rw [List.getElem?_append_right (by omega), List.getElem?_append_right (by omega), h1]
   simp
theorem utf_tabs {w : World} (h : Glob w) : Lib.Utf8Tabs 2 3 w := by
 constructor
 ·intro c hc
  have h1 := h (2, (List.range 256).map fun c => FV.int .u8 ((Go.Lib.firstT c : Nat) : Int)) (by simp [tabs])
  obtain ⟨cs, t, z, h2, h3, h4⟩ := h1
  obtain ⟨v, hv, hr⟩ := h4 c (.int .u8 ((Go.Lib.firstT c : Nat) : Int)) (by simp [hc])
  cases hr
  simp only at h2
  simp [World.cell?, h2, hv]
 ·intro i hi
  have h1 := h (3, ((List.range 16).map fun i => [FV.int .u8 ((Go.Lib.accLo i : Nat) : Int), FV.int .u8 ((Go.Lib.accHi i : Nat) : Int)]).flatten) (by simp [tabs])
  obtain ⟨cs, t, z, h2, h3, h4⟩ := h1
  have hf := (flat2 (fun i => FV.int .u8 ((Go.Lib.accLo i : Nat) : Int)) (fun i => FV.int .u8 ((Go.Lib.accHi i : Nat) : Int)) 16).2 i hi
  obtain ⟨v, hv, hr⟩ := h4 (2 * i) _ hf.1
  obtain ⟨v', hv', hr'⟩ := h4 (2 * i + 1) _ hf.2
  cases hr; cases hr'
  simp only at h2
  simp [World.cell?, h2, hv, hv']
def chN (n b0 b1 b2 b3 : Int) : Int × Int :=
 if b0 < 128 then (b0, 1)
 else if 192 ≤ b0 ∧ b0 < 224 then (if 2 ≤ n ∧ 128 ≤ b1 ∧ b1 < 192 ∧ 128 ≤ (b0 - 192) * 64 + b1 - 128 then ((b0 - 192) * 64 + b1 - 128, 2) else (0, 0))
 else if 224 ≤ b0 ∧ b0 < 240 then
  (if 3 ≤ n ∧ 128 ≤ b1 ∧ b1 < 192 ∧ 128 ≤ b2 ∧ b2 < 192 ∧ 2048 ≤ ((b0 - 224) * 64 + b1 - 128) * 64 + b2 - 128 ∧ ¬ (55296 ≤ ((b0 - 224) * 64 + b1 - 128) * 64 + b2 - 128 ∧ ((b0 - 224) * 64 + b1 - 128) * 64 + b2 - 128 ≤ 57343)
   then (((b0 - 224) * 64 + b1 - 128) * 64 + b2 - 128, 3) else (0, 0))
 else if 240 ≤ b0 ∧ b0 < 248 then
  (if 4 ≤ n ∧ 128 ≤ b1 ∧ b1 < 192 ∧ 128 ≤ b2 ∧ b2 < 192 ∧ 128 ≤ b3 ∧ b3 < 192 ∧ 65536 ≤ (((b0 - 240) * 64 + b1 - 128) * 64 + b2 - 128) * 64 + b3 - 128 ∧ (((b0 - 240) * 64 + b1 - 128) * 64 + b2 - 128) * 64 + b3 - 128 ≤ 1114111
   then ((((b0 - 240) * 64 + b1 - 128) * 64 + b2 - 128) * 64 + b3 - 128, 4) else (0, 0))
 else (0, 0)
def ch1 (l : List Int) : Int × Int := chN l.length (rd l 0) (rd l 1) (rd l 2) (rd l 3)
theorem decodeN_chN' (n b0 b1 b2 b3 : Nat) (h0 : b0 < 256) (h1 : b1 < 256) (h2 : b2 < 256) (h3 : b3 < 256) (p : Nat × Nat) (hp : Lib.decodeN n b0 b1 b2 b3 = p) (q : Int × Int) (hq : chN n b0 b1 b2 b3 = q) :
  (q.1 = 0 ∧ q.2 = 0 ∧ p.1 = 65533 ∧ p.2 = 1) ∨ (q.1 = (p.1 : Int) ∧ q.2 = (p.2 : Int) ∧ ¬ (p.1 = 65533 ∧ p.2 < 2)) := by
 unfold Lib.decodeN at hp
 unfold chN at hq
 repeat' split at hp
 all_goals subst hp
 all_goals repeat' split at hq
 all_goals subst hq
 all_goals first | (exfalso; omega) | (refine .inl ⟨rfl, rfl, rfl, rfl⟩) | (refine .inr ⟨?_, ?_, ?_⟩ <;> simp only <;> omega)
theorem decodeN_chN (n b0 b1 b2 b3 : Nat) (h0 : b0 < 256) (h1 : b1 < 256) (h2 : b2 < 256) (h3 : b3 < 256) :
  (chN n b0 b1 b2 b3 = (0, 0) ∧ Lib.decodeN n b0 b1 b2 b3 = (65533, 1)) ∨ (chN n b0 b1 b2 b3 = (((Lib.decodeN n b0 b1 b2 b3).1 : Int), ((Lib.decodeN n b0 b1 b2 b3).2 : Int)) ∧ ¬ ((Lib.decodeN n b0 b1 b2 b3).1 = 65533 ∧ (Lib.decodeN n b0 b1 b2 b3).2 < 2)) := by
 rcases decodeN_chN' n b0 b1 b2 b3 h0 h1 h2 h3 _ rfl _ rfl with ⟨e1, e2, e3, e4⟩ | ⟨e1, e2, e3⟩
 ·exact .inl ⟨Prod.ext e1 e2, Prod.ext e3 e4⟩
 ·exact .inr ⟨Prod.ext e1 e2, e3⟩
theorem rd_byte {l : List Int} (h : Bytes l) (i : Nat) : 0 ≤ rd l i ∧ rd l i < 256 := by
 by_cases hi : i < l.length
 ·rw [rd_at l i hi]; exact h _ (List.getElem_mem _)
 ·unfold rd; rw [List.getD_eq_getElem?_getD, List.getElem?_eq_none (by omega)]; simp
theorem get_of {l : List Int} (h : Bytes l) (i : Nat) : ((bytesOf l).get! i).toNat = (rd l i).toNat := by
 have e : (bytesOf l).get! i = ((bytesOf l).data[i]?).getD default := by
  show (bytesOf l).data[i]! = _
  rw [getElem!_def]
  cases (bytesOf l).data[i]? <;> rfl
 rw [e]
 by_cases hi : i < l.length
 ·obtain ⟨c, hc, hcn⟩ := byte_at h hi
  rw [hc, Option.getD_some, ← hcn]; rfl
 ·have hn : (bytesOf l).data[i]? = none := by
   rw [Array.getElem?_eq_none]
   have h1 := size_of l
   have h2 : (bytesOf l).data.size = (bytesOf l).size := rfl
   omega
  rw [hn]
  unfold rd; rw [List.getD_eq_getElem?_getD, List.getElem?_eq_none (by omega)]; rfl
def deR (l : List Int) : Int := ((Lib.decodeGo (bytesOf l)).1 : Int)
def deN (l : List Int) : Int := ((Lib.decodeGo (bytesOf l)).2 : Int)
theorem de_ch1 {l : List Int} (h : Bytes l) (hne : l ≠ []) : (ch1 l = (0, 0) ∧ deR l = 65533 ∧ deN l = 1) ∨ (ch1 l = (deR l, deN l) ∧ ¬ (deR l = 65533 ∧ deN l < 2)) := by
 have hs : (bytesOf l).size = l.length := size_of l
 have hl : l.length ≠ 0 := fun h => hne (List.length_eq_zero_iff.1 h)
 have e : Lib.decodeGo (bytesOf l) = Lib.decodeN l.length (rd l 0).toNat (rd l 1).toNat (rd l 2).toNat (rd l 3).toNat := by
  unfold Lib.decodeGo
  rw [if_neg (by omega), Lib.decode_at, hs]
  simp only [Nat.sub_zero, Nat.zero_add, get_of h]
 unfold deR deN ch1
 rw [e]
 have b0 := rd_byte h 0; have b1 := rd_byte h 1; have b2 := rd_byte h 2; have b3 := rd_byte h 3
 have k := decodeN_chN l.length (rd l 0).toNat (rd l 1).toNat (rd l 2).toNat (rd l 3).toNat (by omega) (by omega) (by omega) (by omega)
 rw [Int.toNat_of_nonneg b0.1, Int.toNat_of_nonneg b1.1, Int.toNat_of_nonneg b2.1, Int.toNat_of_nonneg b3.1] at k
 rcases k with ⟨k1, k2⟩ | ⟨k1, k2⟩
 ·left
  exact ⟨k1, by rw [k2]; rfl, by rw [k2]; rfl⟩
 ·right
  exact ⟨k1, by omega⟩
theorem chN_bounds (n b0 b1 b2 b3 : Int) (h0 : 0 ≤ b0) (h1 : b0 < 256) (hn : 1 ≤ n) : 0 ≤ (chN n b0 b1 b2 b3).1 ∧ (chN n b0 b1 b2 b3).1 ≤ 1114111 ∧ 0 ≤ (chN n b0 b1 b2 b3).2 ∧ (chN n b0 b1 b2 b3).2 ≤ n ∧ (chN n b0 b1 b2 b3).2 ≤ 4 := by
 unfold chN
 repeat' split
 all_goals (simp only; omega)
theorem ch1_bounds {l : List Int} (h : Bytes l) (hne : l ≠ []) : 0 ≤ (ch1 l).1 ∧ (ch1 l).1 ≤ 1114111 ∧ 0 ≤ (ch1 l).2 ∧ (ch1 l).2 ≤ l.length ∧ (ch1 l).2 ≤ 4 := by
 have hl : l.length ≠ 0 := fun h => hne (List.length_eq_zero_iff.1 h)
 have b0 := rd_byte h 0
 exact chN_bounds _ _ _ _ _ b0.1 b0.2 (by omega)
theorem DecodeRune_fn {l : List Int} (h : Bytes l) (hne : l ≠ []) : Fn Tryz.prog 61 [fzS .u8 l] [] (.tup [(false, [.fz (.int .i32 (deR l))]), (false, [.fz (.int .i64 (deN l))])]) [] := by
 intro ext w locs vals H hsz hrep
 obtain ⟨v, hv, hr⟩ := hrep 0 _ rfl
 have e : vals = #[v] := by
  apply Array.ext
  ·simpa using hsz
  ·intro i h1 h2
   have : i = 0 := by simp at h2; omega
   subst this
   rw [Array.getElem?_eq_getElem h1] at hv
   simpa using hv
 subst e
 replace hr : RF w (Bar ext locs []) (.sl 1 (ints .u8 l)) v := hr
 clear hrep hsz hv
 generalize hL : ints .u8 l = L at hr
 cases hr with
 | slN sz a c => exact absurd (ints_eq_nil.1 hL) hne
 | sl es b off c sz cv hb hc hsz hcell hr =>
  subst hL
  have hs : (bytesOf l).size = (ints .u8 l).length := by rw [size_of, ints_len]
  have key := Tryz.utf8_DecodeRune (bytesOf l) b off c w (utf_tabs H.glob) (fun j hj => by
   rw [size_of] at hj
   have hg : (ints .u8 l)[j]? = some [.int .u8 (rd l j)] := by simp [ints, rd_at l j hj, hj]
   have h1 := hcell j _ 0 _ hg rfl
   have h2 := hr j _ 0 _ hg rfl
   rw [Nat.mul_one, Nat.add_zero] at h1
   rw [h1]
   generalize cv j 0 = u at h2
   cases h2
   rw [get_of h, Int.toNat_of_nonneg (rd_byte h j).1])
  rw [hs] at key
  refine key.mono ?_
  rintro e w' ⟨rfl, hb⟩
  refine ⟨.tuple #[.int .i32 (deR l), .int .i64 (deN l)], locs, rfl, H.below hb, #[.int .i32 (deR l), .int .i64 (deN l)], rfl, rfl, fun i b' cs hi => ?_⟩
  match i with
  | 0 =>
   cases hi
   refine ⟨.int .i32 (deR l), rfl, [.int .i32 (deR l)], rfl, rfl, fun _ => rfl, fun j x hj => ?_⟩
   cases j with
   | zero => cases hj; exact ⟨_, rfl, .int _ _⟩
   | succ j => simp at hj
  | 1 =>
   cases hi
   refine ⟨.int .i64 (deN l), rfl, [.int .i64 (deN l)], rfl, rfl, fun _ => rfl, fun j x hj => ?_⟩
   cases j with
   | zero => cases hj; exact ⟨_, rfl, .int _ _⟩
   | succ j => simp at hj
  | i + 2 => simp at hi
def chs : Nat → List Int → Nat → List Int → List Int × Int
 | 0, _, _, _ => ([], -1)
 | f + 1, l, at_, acc => if l.length ≤ at_ then (acc, -1) else if (ch1 (l.drop at_)).2 = 0 then ([], at_) else chs f l (at_ + (ch1 (l.drop at_)).2.toNat) (acc ++ [(ch1 (l.drop at_)).1])
def chars (l : List Int) : List Int × Int := chs (l.length + 1) l 0 []
theorem drop_bytes {l : List Int} (h : Bytes l) (n : Nat) : Bytes (l.drop n) := fun x hx => h x (List.mem_of_mem_drop hx)
theorem w32_in {n : Int} (h0 : -2147483648 ≤ n) (h1 : n ≤ 2147483647) : IntKind.wrap .i32 n = n := IntWalk.i32_in n ⟨h0, h1⟩
theorem decode_loop (l : List Int) (h : Bytes l) (hlen : l.length ≤ 65536) (R : TV → List Ob → Prop)
  (hok : (chars l).2 = -1 → R (.tup [(false, [.fz (.sl 1 (ints .i64 (chars l).1))]), (false, [.fz (.int .i64 0)]), (false, [.fz (.int .i64 0)])]) [])
  (hbad : (chars l).2 ≠ -1 → R (.tup [(false, [.fz (.sl 1 ([] : List (List FV)))]), (false, [.fz (.int .i64 (chars l).2)]), (false, [.fz (.int .i64 4)])]) []) :
  ∀ (f at_ : Nat) (acc : List Int), at_ ≤ l.length → l.length - at_ < f → acc.length ≤ at_ → chs f l at_ acc = chars l → utf_Decode_L0 R (ints .u8 l) at_ (ints .i64 acc)
 | 0, at_, acc, h1, h2, h3, h4 => by omega
 | f + 1, at_, acc, h1, h2, h3, h4 => by
  refine utf_Decode_l0 ?_
  unfold utf_Decode_R0
  unfold chs at h4
  simp only [ints_len, ints_app, ints_snoc, ints_take, ints_drop, ints_set, ints_rep, ints_one, ex_rd, dec_t, dec_f, beq_t, beq_f, bne_t, bne_f, not_t, not_f, List.length_set, List.length_append, List.length_cons, List.length_nil, List.length_take, List.length_drop, List.length_replicate, Int.toNat_natCast, List.nil_append, Bool.not_true, Bool.not_false, Wk_nil, Wk_cons, wk1_same, wk1_f, and_true, true_and, Bool.false_eq_true, Bool.true_eq_false, false_implies, forall_const]
  by_cases hat : l.length ≤ at_
  ·rw [if_pos hat] at h4
   refine ⟨fun h => by omega, fun _ => ?_⟩
   rw [← h4] at hok
   exact hok rfl
  ·rw [if_neg hat] at h4
   have hne : l.drop at_ ≠ [] := fun e => by have := congrArg List.length e; simp at this; omega
   have hb := drop_bytes h at_
   have hd := DecodeRune_fn hb hne
   have hc := de_ch1 hb hne
   have hbd := ch1_bounds hb hne
   rw [List.length_drop] at hbd
   refine ⟨fun _ => ⟨by omega, _, _, hd, ?_⟩, fun h => by omega⟩
   rcases hc with ⟨c1, c2, c3⟩ | ⟨c1, c2⟩
   ·rw [c1, if_pos rfl] at h4
    rw [← h4] at hbad
    refine ⟨fun _ => ⟨fun _ => hbad (by simp only; omega), fun h => by omega⟩, fun h => absurd c2 h⟩
   ·have g1 : (ch1 (l.drop at_)).1 = deR (l.drop at_) := by rw [c1]
    have g2 : (ch1 (l.drop at_)).2 = deN (l.drop at_) := by rw [c1]
    have hn0 : (ch1 (l.drop at_)).2 ≠ 0 := by
     intro h0
     rw [g1, g2] at *
     have hd0 : deN (l.drop at_) = 0 := h0
     have hg : 1 ≤ deN (l.drop at_) := by
      have := hbd
      unfold deN
      unfold deN at hd0
      have hs : (bytesOf (l.drop at_)).size = (l.drop at_).length := size_of _
      have hl : (l.drop at_).length ≠ 0 := fun h => hne (List.length_eq_zero_iff.1 h)
      unfold Lib.decodeGo at hd0 ⊢
      rw [if_neg (by omega), Lib.decode_at] at hd0 ⊢
      revert hd0
      unfold Lib.decodeN
      repeat' split
      all_goals (simp)
     omega
    rw [if_neg hn0, g1, g2] at h4
    rw [g1, g2] at hbd
    have ih := decode_loop l h hlen R hok hbad f (at_ + (deN (l.drop at_)).toNat) (acc ++ [deR (l.drop at_)]) (by omega) (by omega) (by rw [List.length_append, List.length_singleton]; omega) h4
    have e1 : IntKind.wrap .i64 (deR (l.drop at_)) = deR (l.drop at_) := w64 (by omega) (by omega)
    have e2 : IntKind.wrap .i64 ((at_ : Int) + deN (l.drop at_)) = ((at_ + (deN (l.drop at_)).toNat : Nat) : Int) := by rw [w64 (by omega) (by omega)]; omega
    rw [e1, e2]
    refine ⟨fun h65 => ⟨fun h => by omega, fun _ => ⟨by omega, ih⟩⟩, fun _ => ⟨by omega, ih⟩⟩
def decL (l : List Int) : List Int := if 65536 < l.length then [] else if (chars l).2 = -1 then (chars l).1 else []
def decA (l : List Int) : Int := if 65536 < l.length then 0 else if (chars l).2 = -1 then 0 else (chars l).2
def decE (l : List Int) : Int := if 65536 < l.length then 6 else if (chars l).2 = -1 then 0 else 4
theorem utfDecode_ok (l : List Int) (h : Bytes l) : Fn Tryz.prog 37 [fzS .u8 l] [] (.tup [(false, [.fz (.sl 1 (ints .i64 (decL l)))]), (false, [.fz (.int .i64 (decA l))]), (false, [.fz (.int .i64 (decE l))])]) [] := by
 refine utf_Decode_fn _ ?_
 unfold utf_Decode_H decL decA decE
 rw [ints_len, dec_t, dec_f]
 refine ⟨fun h1 => ?_, fun h1 => ?_⟩
 ·have hl : 65536 < l.length := by omega
  simp [if_pos hl, ints]
 ·have hl : ¬ 65536 < l.length := by omega
  simp only [if_neg hl]
  refine decode_loop l h (by omega) _ (fun h2 => ?_) (fun h2 => ?_) (l.length + 1) 0 [] (by omega) (by omega) (by simp) rfl
  ·simp [if_pos h2]
  ·simp [if_neg h2, ints]
end Go.Proofs.YtenkkekooimpjaaGreatDoor.Ev
end
section
set_option linter.unusedVariables false
set_option linter.unusedSimpArgs false
namespace Go.Proofs.YtenkkekooimpjaaGreatDoor.Ev
open Go
def scalB (c : Int) : Bool := decide (0 ≤ c) && decide (c ≤ 1114111) && !(decide (55296 ≤ c) && decide (c ≤ 57343))
theorem rScalar_ok (c : Int) : Fn Tryz.prog 79 [fzI .i64 c] [] (fzB (scalB c)) [] := by
 refine ref02_Scalar_fn _ ?_
 unfold ref02_Scalar_H scalB
 rw [dec_t, dec_f, dec_t, dec_f, dec_t, dec_f]
 refine ⟨fun h => ⟨fun h2 => ⟨fun h3 => ?_, fun h3 => ?_⟩, fun h2 => ?_⟩, fun h => ?_⟩
 ·rw [decide_eq_true h, decide_eq_true h2, decide_eq_true h3]; exact ⟨rfl, rfl⟩
 ·rw [decide_eq_true h, decide_eq_true h2, decide_eq_false h3]; exact ⟨rfl, rfl⟩
 ·rw [decide_eq_false h2, Bool.and_false]; exact ⟨rfl, rfl⟩
 ·rw [decide_eq_false h]; exact ⟨rfl, rfl⟩
def utfB (c : Int) : List Int :=
 if c < 128 then [c] else if c < 2048 then [192 + c / 64, 128 + c % 64]
 else if c < 65536 then [224 + c / 4096, 128 + c / 64 % 64, 128 + c % 64]
 else [240 + c / 262144, 128 + c / 4096 % 64, 128 + c / 64 % 64, 128 + c % 64]
theorem rBytes_ok (c : Int) (h : scalB c = true) : Fn Tryz.prog 77 [fzI .i64 c] [] (fzS .u8 (utfB c)) [] := by
 unfold scalB at h
 simp only [Bool.and_eq_true, decide_eq_true_eq] at h
 obtain ⟨⟨h0, h1⟩, _⟩ := h
 refine ref02_Bytes_fn _ ?_
 unfold ref02_Bytes_H utfB
 rw [dec_t, dec_f, dec_t, dec_f, dec_t, dec_f]
 have t1 : Int.tdiv c 64 = c / 64 := Int.tdiv_eq_ediv_of_nonneg h0
 have t2 : Int.tdiv c 4096 = c / 4096 := Int.tdiv_eq_ediv_of_nonneg h0
 have t3 : Int.tdiv c 262144 = c / 262144 := Int.tdiv_eq_ediv_of_nonneg h0
 have m1 : Int.tmod c 64 = c % 64 := Int.tmod_eq_emod_of_nonneg h0
 have w1 : IntKind.wrap .i64 (c / 64) = c / 64 := w64 (by omega) (by omega)
 have w2 : IntKind.wrap .i64 (c / 4096) = c / 4096 := w64 (by omega) (by omega)
 have w3 : IntKind.wrap .i64 (c / 262144) = c / 262144 := w64 (by omega) (by omega)
 have m2 : Int.tmod (c / 64) 64 = c / 64 % 64 := Int.tmod_eq_emod_of_nonneg (by omega)
 have m3 : Int.tmod (c / 4096) 64 = c / 4096 % 64 := Int.tmod_eq_emod_of_nonneg (by omega)
 have v1 : IntKind.wrap .i64 (128 + c % 64) = 128 + c % 64 := w64 (by omega) (by omega)
 have v2 : IntKind.wrap .i64 (128 + c / 64 % 64) = 128 + c / 64 % 64 := w64 (by omega) (by omega)
 have v3 : IntKind.wrap .i64 (128 + c / 4096 % 64) = 128 + c / 4096 % 64 := w64 (by omega) (by omega)
 have u1 : IntKind.wrap .u8 (128 + c % 64) = 128 + c % 64 := wu8 (by omega) (by omega)
 have u2 : IntKind.wrap .u8 (128 + c / 64 % 64) = 128 + c / 64 % 64 := wu8 (by omega) (by omega)
 have u3 : IntKind.wrap .u8 (128 + c / 4096 % 64) = 128 + c / 4096 % 64 := wu8 (by omega) (by omega)
 refine ⟨fun h => ?_, fun h => ⟨fun h2 => ⟨by omega, by omega, ?_⟩, fun h2 => ⟨fun h3 => ⟨by omega, by omega, by omega, by omega, ?_⟩, fun h3 => ⟨by omega, by omega, by omega, by omega, by omega, by omega, ?_⟩⟩⟩⟩
 ·rw [if_pos h, wu8 (by omega) (by omega)]; exact ⟨rfl, rfl⟩
 ·have x1 : IntKind.wrap .i64 (192 + c / 64) = 192 + c / 64 := w64 (by omega) (by omega)
  have x2 : IntKind.wrap .u8 (192 + c / 64) = 192 + c / 64 := wu8 (by omega) (by omega)
  rw [if_neg h, if_pos h2, t1, w1, x1, x2, m1, v1, u1]; exact ⟨rfl, rfl⟩
 ·have x1 : IntKind.wrap .i64 (224 + c / 4096) = 224 + c / 4096 := w64 (by omega) (by omega)
  have x2 : IntKind.wrap .u8 (224 + c / 4096) = 224 + c / 4096 := wu8 (by omega) (by omega)
  rw [if_neg h, if_neg h2, if_pos h3, t2, w2, x1, x2, t1, w1, m2, v2, u2, m1, v1, u1]; exact ⟨rfl, rfl⟩
 ·have x1 : IntKind.wrap .i64 (240 + c / 262144) = 240 + c / 262144 := w64 (by omega) (by omega)
  have x2 : IntKind.wrap .u8 (240 + c / 262144) = 240 + c / 262144 := wu8 (by omega) (by omega)
  rw [if_neg h, if_neg h2, if_neg h3, t3, w3, x1, x2, t2, w2, m3, v3, u3, t1, w1, m2, v2, u2, m1, v1, u1]; exact ⟨rfl, rfl⟩
theorem utfB_len (c : Int) : ((utfB c).length : Int) = if c < 128 then 1 else if c < 2048 then 2 else if c < 65536 then 3 else 4 := by
 unfold utfB
 repeat' split
 all_goals rfl
abbrev oneT (p : Int × Int) : TV := .tup [(false, [.fz (.int .i64 p.1)]), (false, [.fz (.int .i64 p.2)])]
def oneZ (c n : Int) : Int × Int := if scalB c = true ∧ ((utfB c).length : Int) = n then (c, n) else (0, 0)
theorem one_end (b : LL) (at_ c n i : Int) (hi : ¬ i < n) (R : TV → List Ob → Prop) (hR : R (oneT (oneZ c n)) []) : ref02_one_L0 R b at_ c n i := by
 refine ref02_one_l0 ?_
 unfold ref02_one_R0
 rw [dec_t, dec_f]
 refine ⟨fun h => absurd h hi, fun _ => ⟨_, rScalar_ok c, ?_⟩⟩
 unfold oneZ at hR
 rw [not_t, not_f]
 refine ⟨fun h => ?_, fun h => ⟨_, rBytes_ok c h, ?_⟩⟩
 ·rw [if_neg (by rw [h]; simp)] at hR; exact hR
 ·rw [ints_len, bne_t, bne_f]
  refine ⟨fun h2 => ?_, fun h2 => ?_⟩
  ·rw [if_neg (fun h3 => h2 h3.2)] at hR; exact hR
  ·rw [if_pos ⟨h, h2⟩] at hR; exact hR
def oneS (x : Int) (p : Int × Int) : Int × Int := if x < 128 ∨ 192 ≤ x then (0, 0) else p
theorem one_step (l : List Int) (hl : Bytes l) (hlen : l.length ≤ 140737488355328) (at_ i : Nat) (c n : Int) (hi : (i : Int) < n) (hn : at_ + i < l.length) (hc0 : 0 ≤ c) (hc1 : c ≤ 1114111) (p : Int × Int) (R : TV → List Ob → Prop) (hR : R (oneT (oneS (rd l (at_ + i)) p)) [])
  (hk : 128 ≤ rd l (at_ + i) → rd l (at_ + i) < 192 → R (oneT p) [] → ref02_one_L0 R (ints .u8 l) at_ (c * 64 + rd l (at_ + i) - 128) n ((i + 1 : Nat) : Int)) : ref02_one_L0 R (ints .u8 l) at_ c n i := by
 refine ref02_one_l0 ?_
 unfold ref02_one_R0
 have e1 : IntKind.wrap .i64 ((at_ : Int) + (i : Int)) = ((at_ + i : Nat) : Int) := w64 (by omega) (by omega)
 have hb := rd_byte hl (at_ + i)
 have e2 : IntKind.wrap .i64 (rd l (at_ + i)) = rd l (at_ + i) := w64 (by omega) (by omega)
 have e3 : IntKind.wrap .i64 ((i : Int) + 1) = ((i + 1 : Nat) : Int) := w64 (by omega) (by omega)
 have e4 : IntKind.wrap .i64 (c * 64) = c * 64 := w64 (by omega) (by omega)
 have e5 : IntKind.wrap .i64 (c * 64 + rd l (at_ + i)) = c * 64 + rd l (at_ + i) := w64 (by omega) (by omega)
 have e6 : IntKind.wrap .i64 (c * 64 + rd l (at_ + i) - 128) = c * 64 + rd l (at_ + i) - 128 := w64 (by omega) (by omega)
 have hg : (ints .u8 l)[at_ + i]? = some [.int .u8 (rd l (at_ + i))] := by simp [ints, rd_at l _ hn, hn]
 rw [e1, Int.toNat_natCast, e3, dec_t, dec_f]
 unfold oneS at hR
 refine ⟨fun _ => ⟨by omega, _, hg, ?_⟩, fun h => absurd hi h⟩
 rw [e2, dec_t, dec_f, dec_t, dec_f, e4, e5, e6]
 refine ⟨fun h => ?_, fun h => ⟨fun h2 => ?_, fun h2 => ?_⟩⟩
 ·rw [if_pos (.inl h)] at hR; exact hR
 ·rw [if_pos (.inr h2)] at hR; exact hR
 ·rw [if_neg (by omega)] at hR
  exact hk (by omega) (by omega) hR
theorem oneZ_eq (c n : Int) : oneZ c n = if (0 ≤ c ∧ c ≤ 1114111 ∧ ¬ (55296 ≤ c ∧ c ≤ 57343)) ∧ (if c < 128 then 1 else if c < 2048 then 2 else if c < 65536 then 3 else 4) = n then (c, n) else (0, 0) := by
 unfold oneZ
 have e : (scalB c = true) ↔ (0 ≤ c ∧ c ≤ 1114111 ∧ ¬ (55296 ≤ c ∧ c ≤ 57343)) := by
  unfold scalB
  simp only [Bool.and_eq_true, Bool.not_eq_true', Bool.and_eq_false_iff, decide_eq_true_eq, decide_eq_false_iff_not]
  omega
 simp only [e, utfB_len]
theorem one_two (l : List Int) (hl : Bytes l) (hlen : l.length ≤ 140737488355328) (at_ : Nat) (c : Int) (hn : at_ + 1 < l.length) (hc0 : 0 ≤ c) (hc1 : c < 32) (R : TV → List Ob → Prop) (hR : R (oneT (oneS (rd l (at_ + 1)) (oneZ (c * 64 + rd l (at_ + 1) - 128) 2))) []) : ref02_one_L0 R (ints .u8 l) at_ c 2 1 := by
 have hb := rd_byte hl (at_ + 1)
 exact one_step l hl hlen at_ 1 c 2 (by omega) hn hc0 (by omega) _ R hR fun _ _ hR => one_end _ _ _ _ _ (by omega) R hR
theorem one_three (l : List Int) (hl : Bytes l) (hlen : l.length ≤ 140737488355328) (at_ : Nat) (c : Int) (hn : at_ + 2 < l.length) (hc0 : 0 ≤ c) (hc1 : c < 16) (R : TV → List Ob → Prop)
  (hR : R (oneT (oneS (rd l (at_ + 1)) (oneS (rd l (at_ + 2)) (oneZ ((c * 64 + rd l (at_ + 1) - 128) * 64 + rd l (at_ + 2) - 128) 3)))) []) : ref02_one_L0 R (ints .u8 l) at_ c 3 1 := by
 have hb := rd_byte hl (at_ + 1)
 have hb2 := rd_byte hl (at_ + 2)
 refine one_step l hl hlen at_ 1 c 3 (by omega) (by omega) hc0 (by omega) _ R hR fun h1 h2 hR => ?_
 exact one_step l hl hlen at_ 2 _ 3 (by omega) hn (by omega) (by omega) _ R hR fun _ _ hR => one_end _ _ _ _ _ (by omega) R hR
theorem one_four (l : List Int) (hl : Bytes l) (hlen : l.length ≤ 140737488355328) (at_ : Nat) (c : Int) (hn : at_ + 3 < l.length) (hc0 : 0 ≤ c) (hc1 : c < 8) (R : TV → List Ob → Prop)
  (hR : R (oneT (oneS (rd l (at_ + 1)) (oneS (rd l (at_ + 2)) (oneS (rd l (at_ + 3)) (oneZ (((c * 64 + rd l (at_ + 1) - 128) * 64 + rd l (at_ + 2) - 128) * 64 + rd l (at_ + 3) - 128) 4))))) []) : ref02_one_L0 R (ints .u8 l) at_ c 4 1 := by
 have hb := rd_byte hl (at_ + 1)
 have hb2 := rd_byte hl (at_ + 2)
 have hb3 := rd_byte hl (at_ + 3)
 refine one_step l hl hlen at_ 1 c 4 (by omega) (by omega) hc0 (by omega) _ R hR fun h1 h2 hR => ?_
 refine one_step l hl hlen at_ 2 _ 4 (by omega) (by omega) (by omega) (by omega) _ R hR fun _ _ hR => ?_
 exact one_step l hl hlen at_ 3 _ 4 (by omega) hn (by omega) (by omega) _ R hR fun _ _ hR => one_end _ _ _ _ _ (by omega) R hR
theorem rd_dropN (l : List Int) (n i : Nat) : rd (l.drop n) i = rd l (n + i) := by
 unfold rd
 rw [List.getD_eq_getElem?_getD, List.getD_eq_getElem?_getD, List.getElem?_drop]
set_option maxHeartbeats 1000000 in
theorem one_head (l : List Int) (hl : Bytes l) (hlen : l.length ≤ 140737488355328) (at_ : Nat) (hat : at_ < l.length) (R : TV → List Ob → Prop) (hR : R (oneT (chN ((l.length : Int) - at_) (rd l at_) (rd l (at_ + 1)) (rd l (at_ + 2)) (rd l (at_ + 3)))) []) : ref02_one_H R (ints .u8 l) at_ := by
 unfold ref02_one_H
 have hb := rd_byte hl at_
 have hb1 := rd_byte hl (at_ + 1)
 have hb2 := rd_byte hl (at_ + 2)
 have hb3 := rd_byte hl (at_ + 3)
 have e2 : IntKind.wrap .i64 (rd l at_) = rd l at_ := w64 (by omega) (by omega)
 have f1 : IntKind.wrap .i64 (rd l at_ - 240) = rd l at_ - 240 := w64 (by omega) (by omega)
 have f2 : IntKind.wrap .i64 (rd l at_ - 224) = rd l at_ - 224 := w64 (by omega) (by omega)
 have f3 : IntKind.wrap .i64 (rd l at_ - 192) = rd l at_ - 192 := w64 (by omega) (by omega)
 have g1 : IntKind.wrap .i64 ((at_ : Int) + 1) = (at_ : Int) + 1 := w64 (by omega) (by omega)
 have g2 : IntKind.wrap .i64 ((at_ : Int) + 2) = (at_ : Int) + 2 := w64 (by omega) (by omega)
 have g3 : IntKind.wrap .i64 ((at_ : Int) + 3) = (at_ : Int) + 3 := w64 (by omega) (by omega)
 have g4 : IntKind.wrap .i64 ((at_ : Int) + 4) = (at_ : Int) + 4 := w64 (by omega) (by omega)
 have hg : (ints .u8 l)[at_]? = some [.int .u8 (rd l at_)] := by simp [ints, rd_at l _ hat, hat]
 rw [Int.toNat_natCast, ints_len]
 refine ⟨by omega, _, hg, ?_⟩
 rw [e2, f1, f2, f3, g1, g2, g3, g4]
 clear e2 f1 f2 f3 g1 g2 g3 g4 hg
 have k4 : 240 ≤ rd l at_ → rd l at_ < 248 → ((l.length : Int) < (at_ : Int) + 4 → R (oneT (0, 0)) []) ∧ (¬ (l.length : Int) < (at_ : Int) + 4 → ref02_one_L0 R (ints .u8 l) at_ (rd l at_ - 240) 4 1) := by
  intro c1 c2
  refine ⟨fun h => ?_, fun h => one_four l hl hlen at_ _ (by omega) (by omega) (by omega) _ ?_⟩
  ·refine cast (congrArg (fun p => R (oneT p) []) ?_) hR
   unfold chN
   repeat' split
   all_goals first | rfl | (exfalso; omega)
  ·refine cast (congrArg (fun p => R (oneT p) []) ?_) hR
   unfold oneS chN
   rw [oneZ_eq]
   repeat' split
   all_goals first | rfl | (exfalso; omega)
 have k3 : 224 ≤ rd l at_ → rd l at_ < 240 → ((l.length : Int) < (at_ : Int) + 3 → R (oneT (0, 0)) []) ∧ (¬ (l.length : Int) < (at_ : Int) + 3 → ref02_one_L0 R (ints .u8 l) at_ (rd l at_ - 224) 3 1) := by
  intro c1 c2
  refine ⟨fun h => ?_, fun h => one_three l hl hlen at_ _ (by omega) (by omega) (by omega) _ ?_⟩
  ·refine cast (congrArg (fun p => R (oneT p) []) ?_) hR
   unfold chN
   repeat' split
   all_goals first | rfl | (exfalso; omega)
  ·refine cast (congrArg (fun p => R (oneT p) []) ?_) hR
   unfold oneS chN
   rw [oneZ_eq]
   repeat' split
   all_goals first | rfl | (exfalso; omega)
 have k2 : 192 ≤ rd l at_ → rd l at_ < 224 → ((l.length : Int) < (at_ : Int) + 2 → R (oneT (0, 0)) []) ∧ (¬ (l.length : Int) < (at_ : Int) + 2 → ref02_one_L0 R (ints .u8 l) at_ (rd l at_ - 192) 2 1) := by
  intro c1 c2
  refine ⟨fun h => ?_, fun h => one_two l hl hlen at_ _ (by omega) (by omega) (by omega) _ ?_⟩
  ·refine cast (congrArg (fun p => R (oneT p) []) ?_) hR
   unfold chN
   repeat' split
   all_goals first | rfl | (exfalso; omega)
  ·refine cast (congrArg (fun p => R (oneT p) []) ?_) hR
   unfold oneS chN
   rw [oneZ_eq]
   repeat' split
   all_goals first | rfl | (exfalso; omega)
 have k1 : rd l at_ < 128 → ref02_one_L0 R (ints .u8 l) at_ (rd l at_) 1 1 := by
  intro c1
  refine one_end _ _ _ _ _ (by omega) _ (cast (congrArg (fun p => R (oneT p) []) ?_) hR)
  unfold chN
  rw [oneZ_eq]
  repeat' split
  all_goals first | rfl | (exfalso; omega)
 have k0 : ¬ rd l at_ < 128 → ¬ (192 ≤ rd l at_ ∧ rd l at_ < 248) → R (oneT (0, 0)) [] := by
  intro c1 c2
  refine cast (congrArg (fun p => R (oneT p) []) ?_) hR
  unfold chN
  repeat' split
  all_goals first | rfl | (exfalso; omega)
 repeat' first | (refine And.intro ?_ ?_) | (intro h; first | (have := of_decide_eq_true h; clear h; try (exfalso; omega)) | (have := of_decide_eq_false h; clear h; try (exfalso; omega)))
 all_goals first | exact (k4 (by omega) (by omega)).2 (by omega) | exact (k3 (by omega) (by omega)).2 (by omega) | exact (k2 (by omega) (by omega)).2 (by omega) | exact k1 (by omega) | exact k0 (by omega) (by omega) | exact (k4 (by omega) (by omega)).1 (by omega) | exact (k3 (by omega) (by omega)).1 (by omega) | exact (k2 (by omega) (by omega)).1 (by omega)
theorem one_ok (l : List Int) (hl : Bytes l) (hlen : l.length ≤ 140737488355328) (at_ : Nat) (hat : at_ < l.length) : Fn Tryz.prog 76 [fzS .u8 l, fzI .i64 at_] [] (oneT (ch1 (l.drop at_))) [] := by
 refine ref02_one_fn _ _ (one_head l hl hlen at_ hat _ ⟨?_, rfl⟩)
 unfold ch1
 rw [rd_dropN, rd_dropN, rd_dropN, rd_dropN, List.length_drop, show ((l.length - at_ : Nat) : Int) = (l.length : Int) - at_ by omega]; rfl
theorem chars_loop (l : List Int) (hl : Bytes l) (hlen : l.length ≤ 20000000000000) (R : TV → List Ob → Prop)
  (hok : (chars l).2 = -1 → R (.tup [(false, [.fz (.sl 1 (ints .i64 (chars l).1))]), (false, [.fz (.int .i64 (-1))])]) [])
  (hbad : (chars l).2 ≠ -1 → R (.tup [(false, [.fz (.sl 1 ([] : List (List FV)))]), (false, [.fz (.int .i64 (chars l).2)])]) []) :
  ∀ (f at_ : Nat) (acc : List Int), at_ ≤ l.length → l.length - at_ < f → acc.length ≤ at_ → chs f l at_ acc = chars l → ref02_Chars_L0 R (ints .u8 l) at_ (ints .i64 acc)
 | 0, at_, acc, h1, h2, h3, h4 => by omega
 | f + 1, at_, acc, h1, h2, h3, h4 => by
  refine ref02_Chars_l0 ?_
  unfold ref02_Chars_R0
  unfold chs at h4
  simp only [ints_len, ints_app, ints_snoc, ints_take, ints_drop, ints_set, ints_rep, ints_one, ex_rd, dec_t, dec_f, beq_t, beq_f, bne_t, bne_f, not_t, not_f, List.length_set, List.length_append, List.length_cons, List.length_nil, List.length_take, List.length_drop, List.length_replicate, Int.toNat_natCast, List.nil_append, Bool.not_true, Bool.not_false, Wk_nil, Wk_cons, wk1_same, wk1_f, and_true, true_and, Bool.false_eq_true, Bool.true_eq_false, false_implies, forall_const]
  by_cases hat : l.length ≤ at_
  ·rw [if_pos hat] at h4
   refine ⟨fun h => by omega, fun _ => ?_⟩
   rw [← h4] at hok
   exact hok rfl
  ·rw [if_neg hat] at h4
   have hne : l.drop at_ ≠ [] := fun e => by have := congrArg List.length e; simp at this; omega
   have hb := drop_bytes hl at_
   have hd := one_ok l hl (by omega) at_ (by omega)
   have hbd := ch1_bounds hb hne
   rw [List.length_drop] at hbd
   refine ⟨fun _ => ⟨_, _, hd, fun h0 => ?_, fun h0 => ?_⟩, fun h => by omega⟩
   ·rw [if_pos h0] at h4
    rw [← h4] at hbad
    exact hbad (by simp only; omega)
   ·rw [if_neg h0] at h4
    have ih := chars_loop l hl hlen R hok hbad f (at_ + (ch1 (l.drop at_)).2.toNat) (acc ++ [(ch1 (l.drop at_)).1]) (by omega) (by omega) (by rw [List.length_append, List.length_singleton]; omega) h4
    have e2 : IntKind.wrap .i64 ((at_ : Int) + (ch1 (l.drop at_)).2) = ((at_ + (ch1 (l.drop at_)).2.toNat : Nat) : Int) := by rw [w64 (by omega) (by omega)]; omega
    rw [e2]
    exact ⟨by omega, ih⟩
def chL (l : List Int) : List Int := if (chars l).2 = -1 then (chars l).1 else []
theorem rChars_ok (l : List Int) (h : Bytes l) (hlen : l.length ≤ 20000000000000) : Fn Tryz.prog 45 [fzS .u8 l] [] (.tup [(false, [.fz (.sl 1 (ints .i64 (chL l)))]), (false, [.fz (.int .i64 (chars l).2)])]) [] := by
 refine ref02_Chars_fn _ ?_
 unfold ref02_Chars_H chL
 refine chars_loop l h hlen _ (fun h2 => ?_) (fun h2 => ?_) (l.length + 1) 0 [] (by omega) (by omega) (by simp) rfl
 ·rw [if_pos h2, h2]; exact ⟨rfl, rfl⟩
 ·rw [if_neg h2]; exact ⟨rfl, rfl⟩
end Go.Proofs.YtenkkekooimpjaaGreatDoor.Ev
end
section
set_option linter.unusedVariables false
set_option linter.unusedSimpArgs false
namespace Go.Proofs.YtenkkekooimpjaaGreatDoor.Ev
open Go Go.RowKit
def blankB (c : Int) : Bool := decide (c = 9 ∨ c = 10 ∨ c = 13 ∨ c = 32)
def endsB (c : Int) : Bool := decide ((c = 9 ∨ c = 10 ∨ c = 13 ∨ c = 32) ∨ c = 40 ∨ c = 41 ∨ c = 59 ∨ c = 34 ∨ c = 39 ∨ c = 96 ∨ c = 44)
theorem uBlank_ok (c : Int) : Fn Tryz.prog 102 [fzI .i64 c] [] (fzB (blankB c)) [] := by
 refine utf_Blank_fn _ ?_
 unfold utf_Blank_H blankB
 simp only [beq_t, beq_f]
 refine ⟨fun h => ?_, fun h => ⟨fun h2 => ?_, fun h2 => ⟨fun h3 => ?_, fun h3 => ?_⟩⟩⟩
 ·simp [h]
 ·simp [h2]
 ·simp [h3]
 ·simp [h, h2, h3]
  rw [Bool.eq_iff_iff]; simp
theorem rBlank_ok (c : Int) : Fn Tryz.prog 136 [fzI .i64 c] [] (fzB (blankB c)) [] := by
 refine ref02_Blank_fn _ ?_
 unfold ref02_Blank_H blankB
 simp only [beq_t, beq_f]
 refine ⟨fun h => ?_, fun h => ⟨fun h2 => ?_, fun h2 => ⟨fun h3 => ?_, fun h3 => ?_⟩⟩⟩
 ·simp [h]
 ·simp [h2]
 ·simp [h3]
 ·simp [h, h2, h3]
  rw [Bool.eq_iff_iff]; simp
theorem IndexByte_fn (s : ByteArray) (c : Int) : Fn Tryz.prog 131 [.one (.fz (.str s)), fzI .u8 c] [] (fzI .i64 (Lib.indexByte s.data.toList c.toNat.toUInt8)) [] :=
 Fn.of_below [.str s, .int .u8 c] rfl rfl fun w hg => (Tryz.strings_IndexByte s c w).mono fun e w' ⟨h1, h2⟩ => ⟨h1, h2 ▸ Below.refl _ _⟩
set_option maxRecDepth 100000 in
theorem ends_tab : ∀ c : Fin 128, (decide (0 ≤ Lib.indexByte (ByteArray.mk #[40, 41, 59, 34, 39, 96, 44]).data.toList (c.val : Nat).toUInt8)) = decide ((c.val : Int) = 40 ∨ (c.val : Int) = 41 ∨ (c.val : Int) = 59 ∨ (c.val : Int) = 34 ∨ (c.val : Int) = 39 ∨ (c.val : Int) = 96 ∨ (c.val : Int) = 44) := by decide
theorem uEnds_ok (c : Int) : Fn Tryz.prog 104 [fzI .i64 c] [] (fzB (endsB c)) [] := by
 refine utf_Ends_fn _ ?_
 unfold utf_Ends_H endsB
 refine ⟨_, uBlank_ok c, ?_⟩
 unfold blankB
 simp only [dec_t, dec_f]
 refine ⟨fun h => ?_, fun h => ⟨fun h2 => ⟨fun h3 => ?_, fun h3 => ?_⟩, fun h2 => ?_⟩⟩
 ·simp [h]
 ·rw [wu8 (by omega) (by omega)]
  refine ⟨_, IndexByte_fn _ c, ?_⟩
  have := ends_tab ⟨c.toNat, by omega⟩
  simp only at this
  rw [this, show ((c.toNat : Nat) : Int) = c by omega]
  simp [h]
 ·have : ¬ (c = 40 ∨ c = 41 ∨ c = 59 ∨ c = 34 ∨ c = 39 ∨ c = 96 ∨ c = 44) := by omega
  simp [h, this]
 ·have : ¬ (c = 40 ∨ c = 41 ∨ c = 59 ∨ c = 34 ∨ c = 39 ∨ c = 96 ∨ c = 44) := by omega
  simp [h, this]
theorem rEnds_ok (c : Int) : Fn Tryz.prog 108 [fzI .i64 c] [] (fzB (endsB c)) [] := by
 refine ref02_Ends_fn _ ?_
 unfold ref02_Ends_H endsB
 refine ⟨_, rBlank_ok c, ?_⟩
 unfold blankB
 simp only [dec_t, dec_f, beq_t, beq_f]
 refine ⟨fun h => ?_, fun h => ⟨fun h2 => ?_, fun h2 => ⟨fun h3 => ?_, fun h3 => ⟨fun h4 => ?_, fun h4 => ⟨fun h5 => ?_, fun h5 => ⟨fun h6 => ?_, fun h6 => ⟨fun h7 => ?_, fun h7 => ?_⟩⟩⟩⟩⟩⟩⟩
 ·simp [h]
 ·simp [h2]
 ·simp [h3]
 ·simp [h4]
 ·simp [h5]
 ·simp [h6]
 ·simp [h7]
 ·simp [h, h2, h3, h4, h5, h6, h7]
  rw [Bool.eq_iff_iff]; simp
theorem ixEnds_loop (xs : List Int) (hl : xs.length ≤ 1000000000) :
  ∀ (d j : Nat), j + d = xs.length → (xs.take j).any endsB = false → ∃ n : Int, (decide (0 ≤ n) = xs.any endsB) ∧ ∀ R : TV → List Ob → Prop, R (fzI .i64 n) [] → ixEnds_L0 R (ints .i64 xs) j
 | 0, j, hj, h => by
  refine ⟨-1, ?_, fun R hR => ixEnds_l0 ?_⟩
  ·rw [List.take_of_length_le (by omega)] at h
   rw [h]; simp
  ·unfold ixEnds_R0
   rw [ints_len, dec_t, dec_f]
   exact ⟨fun h => by omega, fun _ => hR⟩
 | d + 1, j, hj, h => by
  have hF := uEnds_ok (rd xs j)
  have hg : (ints .i64 xs)[j]? = some [.int .i64 (rd xs j)] := by simp [ints, rd_at xs j (by omega), show j < xs.length by omega]
  by_cases hpx : endsB (rd xs j) = true
  ·refine ⟨j, ?_, fun R hR => ixEnds_l0 ?_⟩
   ·have : xs.any endsB = true := List.any_eq_true.2 ⟨_, List.getElem_mem (show j < xs.length by omega), by rw [← rd_at xs j (by omega)]; exact hpx⟩
    rw [this]; simp
   ·unfold ixEnds_R0
    rw [ints_len, dec_t, dec_f]
    refine ⟨fun _ => ⟨by omega, _, hg, _, hF, fun _ => hR, fun h => ?_⟩, fun h => by omega⟩
    rw [hpx] at h; cases h
  ·obtain ⟨q, h1, h2⟩ := ixEnds_loop xs hl d (j + 1) (by omega) (by
    rw [List.take_succ_eq_append_getElem (by omega), List.any_append, h, ← rd_at xs j (by omega)]
    simpa using hpx)
   refine ⟨q, h1, fun R hR => ixEnds_l0 ?_⟩
   unfold ixEnds_R0
   have e : IntKind.wrap .i64 ((j : Int) + 1) = ((j + 1 : Nat) : Int) := w64 (by omega) (by omega)
   rw [ints_len, dec_t, dec_f, e]
   refine ⟨fun _ => ⟨by omega, _, hg, _, hF, fun h => absurd h hpx, fun _ => h2 R hR⟩, fun h => by omega⟩
theorem anyEnds_ok (xs : List Int) (hl : xs.length ≤ 1000000000) :
  Fn Tryz.prog 55 [fzS .i64 xs, .one (.fz (.fn 104 []))] [] (fzB (xs.any endsB)) [] := by
 obtain ⟨n, h1, h2⟩ := ixEnds_loop xs hl xs.length 0 (by omega) (by simp)
 refine slices_ContainsFunc_int_int_fn _ _ ?_
 unfold slices_ContainsFunc_int_int_H
 exact ⟨n, ixEnds_fn _ (h2 _ ⟨rfl, rfl⟩), by rw [h1], rfl⟩
def digB (T : List Int) (i : Nat) : Bool := decide (i < T.length ∧ 48 ≤ rd T i ∧ rd T i ≤ 57)
theorem tdigit_ok (T : List Int) (hT : Bytes T) (i : Nat) : Fn Tryz.prog 139 [.one (.fz (.str (bytesOf T))), fzI .i64 i] [] (fzB (digB T i)) [] := by
 refine token_digit_fn _ _ ?_
 unfold token_digit_H digB
 rw [size_of, dec_t, dec_f, Int.toNat_natCast]
 refine ⟨fun h => ?_, fun h => ?_⟩
 ·have hi : i < T.length := by omega
  obtain ⟨c, hc, hcn⟩ := byte_at hT hi
  refine ⟨by omega, c, hc, ?_⟩
  rw [hcn, dec_t, dec_f]
  refine ⟨fun h2 => ⟨by omega, c, hc, ?_⟩, fun h2 => ?_⟩
  ·rw [hcn]; simp [hi, h2]
  ·have : ¬ (i < T.length ∧ 48 ≤ rd T i ∧ rd T i ≤ 57) := by omega
   simp [this]
 ·have : ¬ (i < T.length ∧ 48 ≤ rd T i ∧ rd T i ≤ 57) := by omega
  simp [this]
theorem rdigit_ok (T : List Int) (hT : Bytes T) (i : Nat) : Fn Tryz.prog 107 [.one (.fz (.str (bytesOf T))), fzI .i64 i] [] (fzB (digB T i)) [] := by
 refine ref02_digit_fn _ _ ?_
 unfold ref02_digit_H digB
 rw [size_of, dec_t, dec_f, Int.toNat_natCast]
 refine ⟨fun h => ?_, fun h => ?_⟩
 ·have hi : i < T.length := by omega
  obtain ⟨c, hc, hcn⟩ := byte_at hT hi
  refine ⟨by omega, c, hc, ?_⟩
  rw [hcn, dec_t, dec_f]
  refine ⟨fun h2 => ⟨by omega, c, hc, ?_⟩, fun h2 => ?_⟩
  ·rw [hcn]; simp [hi, h2]
  ·have : ¬ (i < T.length ∧ 48 ≤ rd T i ∧ rd T i ≤ 57) := by omega
   simp [this]
 ·have : ¬ (i < T.length ∧ 48 ≤ rd T i ∧ rd T i ≤ 57) := by omega
  simp [this]
theorem hasPref (T : List Int) (hT : Bytes T) (c : Nat) (hc : c < 256) : Lib.hasPrefix (bytesOf T).data.toList [UInt8.ofNat c] = decide (T.head? = some (c : Int)) := by
 rw [data_of]
 cases T with
 | nil => simp [Lib.hasPrefix]
 | cons x T =>
  have hx := hT x List.mem_cons_self
  have h3 := u8_back hx.1 hx.2
  have hcc : (UInt8.ofNat c).toNat = c := by rw [UInt8.toNat_ofNat']; omega
  unfold Lib.hasPrefix
  rw [Bool.eq_iff_iff]
  simp [← UInt8.toNat_inj]
  omega
theorem HasPrefix_fn (s p : ByteArray) : Fn Tryz.prog 138 [.one (.fz (.str s)), .one (.fz (.str p))] [] (fzB (Lib.hasPrefix s.data.toList p.data.toList)) [] :=
 Fn.of_below [.str s, .str p] rfl rfl fun w hg => (Tryz.strings_HasPrefix s p w).mono fun e w' ⟨h1, h2⟩ => ⟨h1, h2 ▸ Below.refl _ _⟩
def symP (T : List Int) : Prop := T ≠ [] ∧ T ≠ [46] ∧ T.length ≤ 64 ∧ (chars T).2 = -1 ∧ (chars T).1.any endsB = false ∧ rd T 0 ≠ 35 ∧ digB T 0 = false ∧ ¬ ((rd T 0 = 43 ∨ rd T 0 = 45) ∧ digB T 1 = true)
def trueP (T : List Int) : Prop := T = [35, 116] ∨ T = [35, 116, 114, 117, 101]
def falseP (T : List Int) : Prop := T = [35, 102] ∨ T = [35, 102, 97, 108, 115, 101]
instance (T : List Int) : Decidable (symP T) := by unfold symP; infer_instance
instance (T : List Int) : Decidable (trueP T) := by unfold trueP; infer_instance
instance (T : List Int) : Decidable (falseP T) := by unfold falseP; infer_instance
abbrev atT (k : Int) (t : ByteArray) (n : Bool) (l : List Int) (b : Bool) : TV := .tup [(true, [.fz (.int .i64 k), .fz (.str t), .fz (.bool n), .fz (.sl 1 (ints .u32 l)), .fz (.sl 6 ([] : List (List FV))), .fz (.int .i64 0)]), (false, [.fz (.bool b)])]
def atomK (T : List Int) : Int := if trueP T then 8 else if falseP T then 9 else if ptB (pRest T) = true then 7 else if symP T then 4 else 0
def atomS (T : List Int) : List Int := if atomK T = 4 then T else []
def atomN (T : List Int) : Bool := if atomK T = 7 then ptS (pNeg T) (pRest T) else false
def atomL (T : List Int) : List Int := if atomK T = 7 then ptL (pRest T) else []
abbrev atomT (T : List Int) : TV := atT (atomK T) (bytesOf (atomS T)) (atomN T) (atomL T) (decide (atomK T ≠ 0))
theorem atomT_8 {T : List Int} (h : trueP T) : atomT T = atT 8 (ByteArray.mk #[]) false [] true := by
 have : atomK T = 8 := if_pos h
 unfold atomT atomS atomN atomL; rw [this]; rfl
theorem atomT_9 {T : List Int} (h : falseP T) : atomT T = atT 9 (ByteArray.mk #[]) false [] true := by
 have h1 : ¬ trueP T := by
  unfold trueP falseP at *
  rcases h with rfl | rfl <;> simp
 have : atomK T = 9 := by unfold atomK; rw [if_neg h1, if_pos h]
 unfold atomT atomS atomN atomL; rw [this]; rfl
theorem atomT_7 {T : List Int} (h1 : ¬ trueP T) (h2 : ¬ falseP T) (h3 : ptB (pRest T) = true) : atomT T = atT 7 (ByteArray.mk #[]) (ptS (pNeg T) (pRest T)) (ptL (pRest T)) true := by
 have : atomK T = 7 := by unfold atomK; rw [if_neg h1, if_neg h2, if_pos h3]
 unfold atomT atomS atomN atomL; rw [this]; rfl
theorem atomT_4 {T : List Int} (h1 : ¬ trueP T) (h2 : ¬ falseP T) (h3 : ptB (pRest T) = false) (h4 : symP T) : atomT T = atT 4 (bytesOf T) false [] true := by
 have : atomK T = 4 := by unfold atomK; rw [if_neg h1, if_neg h2, if_neg (by rw [h3]; simp), if_pos h4]
 unfold atomT atomS atomN atomL; rw [this]; rfl
theorem atomT_0 {T : List Int} (h1 : ¬ trueP T) (h2 : ¬ falseP T) (h3 : ptB (pRest T) = false) (h4 : ¬ symP T) : atomT T = atT 0 (ByteArray.mk #[]) false [] false := by
 have : atomK T = 0 := by unfold atomK; rw [if_neg h1, if_neg h2, if_neg (by rw [h3]; simp), if_neg h4]
 unfold atomT atomS atomN atomL; rw [this]; rfl
theorem decE_small {T : List Int} (h : ¬ 64 < T.length) : (decE T ≠ 0 ↔ (chars T).2 ≠ -1) ∧ ((chars T).2 = -1 → decL T = (chars T).1) := by
 unfold decE decL
 have hn : ¬ 65536 < T.length := by omega
 simp only [if_neg hn]
 by_cases h2 : (chars T).2 = -1
 ·simp [h2]
 ·simp [h2]
theorem chs_len : ∀ (f at_ : Nat) (l acc : List Int), (chs f l at_ acc).1.length ≤ acc.length + f
 | 0, at_, l, acc => by simp [chs]
 | f + 1, at_, l, acc => by
  unfold chs
  split
  ·simp only; omega
  ·split
   ·simp
   ·have := chs_len f (at_ + (ch1 (l.drop at_)).2.toNat) l (acc ++ [(ch1 (l.drop at_)).1])
    simp only [List.length_append, List.length_singleton] at this
    omega
theorem chars_len (l : List Int) : (chars l).1.length ≤ l.length + 1 := by
 have := chs_len (l.length + 1) 0 l []
 unfold chars
 simpa using this
end Go.Proofs.YtenkkekooimpjaaGreatDoor.Ev
end
section
set_option linter.unusedVariables false
set_option linter.unusedSimpArgs false
namespace Go.Proofs.YtenkkekooimpjaaGreatDoor.Ev
open Go Go.RowKit
theorem atom_eqs {T : List Int} (hT : Bytes T) :
  ((ByteArray.toList (bytesOf T)) == (ByteArray.toList (ByteArray.mk #[35, 116]))) = decide (T = [35, 116]) ∧ ((ByteArray.toList (bytesOf T)) == (ByteArray.toList (ByteArray.mk #[35, 116, 114, 117, 101]))) = decide (T = [35, 116, 114, 117, 101]) ∧
  ((ByteArray.toList (bytesOf T)) == (ByteArray.toList (ByteArray.mk #[35, 102]))) = decide (T = [35, 102]) ∧ ((ByteArray.toList (bytesOf T)) == (ByteArray.toList (ByteArray.mk #[35, 102, 97, 108, 115, 101]))) = decide (T = [35, 102, 97, 108, 115, 101]) ∧
  ((ByteArray.toList (bytesOf T)) == (ByteArray.toList (ByteArray.mk #[]))) = decide (T = []) ∧ ((ByteArray.toList (bytesOf T)) == (ByteArray.toList (ByteArray.mk #[46]))) = decide (T = [46]) := by
 have b : ∀ l : List Int, (∀ x ∈ l, 0 ≤ x ∧ x < 256) → Bytes l := fun l h => h
 refine ⟨eq_bytes (m := [35, 116]) hT (b _ (by decide)), eq_bytes (m := [35, 116, 114, 117, 101]) hT (b _ (by decide)), eq_bytes (m := [35, 102]) hT (b _ (by decide)), eq_bytes (m := [35, 102, 97, 108, 115, 101]) hT (b _ (by decide)), eq_bytes (m := []) hT (b _ (by decide)), eq_bytes (m := [46]) hT (b _ (by decide))⟩
theorem byte0 {T : List Int} (hT : Bytes T) (hne : T ≠ []) : ∃ c : UInt8, (ByteArray.data (bytesOf T))[Int.toNat 0]? = some c ∧ ((c.toNat : Nat) : Int) = rd T 0 :=
 byte_at hT (List.length_pos_iff.2 hne)
theorem head_rd {T : List Int} (hne : T ≠ []) (c : Int) : (T.head? = some c) ↔ rd T 0 = c := by
 cases T with
 | nil => exact absurd rfl hne
 | cons x T => simp [rd]
set_option maxHeartbeats 1000000 in
theorem tAtom_ok (T : List Int) (hT : Bytes T) (hlen : T.length ≤ 16777216) : Fn Tryz.prog 110 [.one (.fz (.str (bytesOf T)))] [] (atomT T) [] := by
 refine token_Atom_fn _ ?_
 obtain ⟨R, hR, hRe⟩ : ∃ R : TV → List Ob → Prop, R (atomT T) [] ∧ (fun r' h' => r' = atomT T ∧ h' = []) = R := ⟨_, ⟨rfl, rfl⟩, rfl⟩
 rw [hRe]
 clear hRe
 unfold token_Atom_H
 obtain ⟨e1, e2, e3, e4, e5, e6⟩ := atom_eqs hT
 rw [map_bs, bs_of hT, e1, e2, e3, e4, e5, e6, size_of]
 clear e1 e2 e3 e4 e5 e6
 refine ⟨fun h => ?_, fun h1 => ⟨fun h => ?_, fun h2 => ⟨fun h => ?_, fun h3 => ⟨fun h => ?_, fun h4 => ?_⟩⟩⟩⟩
 ·rw [atomT_8 (.inl (of_decide_eq_true h))] at hR; exact hR
 ·rw [atomT_8 (.inr (of_decide_eq_true h))] at hR; exact hR
 ·rw [atomT_9 (.inl (of_decide_eq_true h))] at hR; exact hR
 ·rw [atomT_9 (.inr (of_decide_eq_true h))] at hR; exact hR
 have g1 : ¬ trueP T := fun h => h.elim (of_decide_eq_false h1) (of_decide_eq_false h2)
 have g2 : ¬ falseP T := fun h => h.elim (of_decide_eq_false h3) (of_decide_eq_false h4)
 refine ⟨_, _, _, parse_ok T hT (by omega), fun h => ?_, fun h5 => ?_⟩
 ·rw [atomT_7 g1 g2 h] at hR; exact hR
 have hS : symP T → R (atT 4 (bytesOf T) false [] true) [] := fun h => by rw [atomT_4 g1 g2 h5 h] at hR; exact hR
 have hN : ¬ symP T → R (atT 0 (ByteArray.mk #[]) false [] false) [] := fun h => by rw [atomT_0 g1 g2 h5 h] at hR; exact hR
 clear hR
 refine ⟨_, _, _, utfDecode_ok T hT, ?_⟩
 have p1 := HasPrefix_fn (bytesOf T) (ByteArray.mk #[43])
 have p2 := HasPrefix_fn (bytesOf T) (ByteArray.mk #[45])
 rw [show (ByteArray.mk #[43]).data.toList = [UInt8.ofNat 43] from rfl, hasPref T hT 43 (by omega)] at p1
 rw [show (ByteArray.mk #[45]).data.toList = [UInt8.ofNat 45] from rfl, hasPref T hT 45 (by omega)] at p2
 have rest : ∀ (sg : Bool), (T ≠ [] → (sg = true ↔ (rd T 0 = 43 ∨ rd T 0 = 45))) →
   (decide (T = []) = true → R (atT 0 (ByteArray.mk #[]) false [] false) []) ∧ (decide (T = []) = false →
   (decide (T = [46]) = true → R (atT 0 (ByteArray.mk #[]) false [] false) []) ∧ (decide (T = [46]) = false →
   (decide ((64 : Int) < ((T.length : Nat) : Int)) = true → R (atT 0 (ByteArray.mk #[]) false [] false) []) ∧ (decide ((64 : Int) < ((T.length : Nat) : Int)) = false →
   ((decE T != 0) = true → R (atT 0 (ByteArray.mk #[]) false [] false) []) ∧ ((decE T != 0) = false →
   ∃ b17 : Bool, Fn Tryz.prog 55 [fzS .i64 (decL T), .one (.fz (.fn 104 []))] [] (fzB b17) [] ∧
   (b17 = true → R (atT 0 (ByteArray.mk #[]) false [] false) []) ∧ (b17 = false → (0 : Int) ≤ 0 ∧ ∃ c2 : UInt8, (ByteArray.data (bytesOf T))[Int.toNat 0]? = some c2 ∧
   (((((UInt8.toNat c2) : Nat) : Int) == 35) = true → R (atT 0 (ByteArray.mk #[]) false [] false) []) ∧ (((((UInt8.toNat c2) : Nat) : Int) == 35) = false →
   ∃ b18 : Bool, Fn Tryz.prog 139 [.one (.fz (.str (bytesOf T))), fzI .i64 0] [] (fzB b18) [] ∧
   (b18 = true → R (atT 0 (ByteArray.mk #[]) false [] false) []) ∧ (b18 = false →
   (sg = true → ∃ b19 : Bool, Fn Tryz.prog 139 [.one (.fz (.str (bytesOf T))), fzI .i64 1] [] (fzB b19) [] ∧ (b19 = true → R (atT 0 (ByteArray.mk #[]) false [] false) []) ∧ (b19 = false → R (atT 4 (bytesOf T) false [] true) [])) ∧
   (sg = false → R (atT 4 (bytesOf T) false [] true) [])))))))) := by
  intro sg hsg
  refine ⟨fun h => hN fun hs => hs.1 (of_decide_eq_true h), fun h => ?_⟩
  have hne : T ≠ [] := of_decide_eq_false h
  refine ⟨fun h => hN fun hs => hs.2.1 (of_decide_eq_true h), fun h6 => ⟨fun h => hN fun hs => ?_, fun h => ?_⟩⟩
  ·have := of_decide_eq_true h
   have := hs.2.2.1
   omega
  have hl : ¬ 64 < T.length := by have := of_decide_eq_false h; omega
  obtain ⟨d1, d2⟩ := decE_small hl
  rw [bne_t, bne_f]
  refine ⟨fun h => hN fun hs => (d1.1 h) hs.2.2.2.1, fun h => ?_⟩
  have hc : (chars T).2 = -1 := by
   by_cases hc : (chars T).2 = -1
   ·exact hc
   ·exact absurd h (d1.2 hc)
  have hcl := chars_len T
  rw [d2 hc]
  refine ⟨_, anyEnds_ok _ (by omega), fun h => hN fun hs => ?_, fun h7 => ⟨by omega, ?_⟩⟩
  ·have := hs.2.2.2.2.1
   rw [h] at this; cases this
  obtain ⟨c, hcc, hcn⟩ := byte0 hT hne
  refine ⟨c, hcc, ?_⟩
  rw [hcn, beq_t, beq_f]
  refine ⟨fun h => hN fun hs => hs.2.2.2.2.2.1 h, fun h8 => ⟨_, tdigit_ok T hT 0, fun h => hN fun hs => ?_, fun h9 => ⟨fun h => ⟨_, tdigit_ok T hT 1, fun h2 => hN fun hs => ?_, fun h2 => hS ?_⟩, fun h => hS ?_⟩⟩⟩
  ·have := hs.2.2.2.2.2.2.1
   rw [h] at this; cases this
  ·exact hs.2.2.2.2.2.2.2 ⟨(hsg hne).1 h, h2⟩
  ·exact ⟨hne, of_decide_eq_false h6, by omega, hc, h7, h8, h9, fun hx => by rw [hx.2] at h2; cases h2⟩
  ·exact ⟨hne, of_decide_eq_false h6, by omega, hc, h7, h8, h9, fun hx => by rw [(hsg hne).2 hx.1] at h; cases h⟩
 refine ⟨_, p1, fun h => ?_, fun h => ⟨_, p2, ?_⟩⟩
 ·obtain ⟨r1, r2⟩ := rest true (fun hne => ⟨fun _ => .inl ((head_rd hne _).1 (of_decide_eq_true h)), fun _ => rfl⟩)
  refine ⟨r1, fun k1 => ⟨(r2 k1).1, fun k2 => ⟨((r2 k1).2 k2).1, fun k3 => ⟨(((r2 k1).2 k2).2 k3).1, fun k4 => ?_⟩⟩⟩⟩
  obtain ⟨b, q1, q2, q3⟩ := (((r2 k1).2 k2).2 k3).2 k4
  refine ⟨b, q1, q2, fun k5 => ?_⟩
  obtain ⟨q4, c, q5, q6, q7⟩ := q3 k5
  refine ⟨q4, c, q5, q6, fun k6 => ?_⟩
  obtain ⟨b, q8, q9, q10⟩ := q7 k6
  exact ⟨b, q8, q9, fun k7 => (q10 k7).1 rfl⟩
 ·have hs : ∀ hne : T ≠ [], (decide (T.head? = some ((45 : Nat) : Int)) = true ↔ (rd T 0 = 43 ∨ rd T 0 = 45)) := fun hne => by
   rw [decide_eq_true_eq, head_rd hne]
   have := of_decide_eq_false h
   rw [head_rd hne] at this
   omega
  exact rest _ hs
theorem drop_rd' (l : List Int) (j : Nat) (h : j < l.length) : l.drop j = rd l j :: l.drop (j + 1) := by
 rw [rd_at l j h]; exact List.drop_eq_getElem_cons h
theorem chL_eq (T : List Int) (h : (chars T).2 = -1) : chL T = (chars T).1 := if_pos h
theorem chs_bad : ∀ (f at_ : Nat) (l acc : List Int), (chs f l at_ acc).2 = -1 ∨ 0 ≤ (chs f l at_ acc).2
 | 0, at_, l, acc => by simp [chs]
 | f + 1, at_, l, acc => by
  unfold chs
  split
  ·simp
  ·split
   ·right; simp only; omega
   ·exact chs_bad f _ l _
theorem rAtom_loop (T : List Int) (xs : List Int) (hl : xs.length ≤ 1000000000) (R : TV → List Ob → Prop) (hS : xs.any endsB = false → R (atT 4 (bytesOf T) false [] true) []) (hN : xs.any endsB = true → R (atT 0 (ByteArray.mk #[]) false [] false) []) :
  ∀ (d j : Nat), j + d = xs.length → xs.any endsB = (xs.drop j).any endsB → ref02_Atom_L0 R (bytesOf T) (ints .i64 xs) j
 | 0, j, hj, h => by
  refine ref02_Atom_l0 ?_
  unfold ref02_Atom_R0
  rw [ints_len, dec_t, dec_f]
  refine ⟨fun h => by omega, fun _ => hS ?_⟩
  rw [h, List.drop_of_length_le (by omega)]; rfl
 | d + 1, j, hj, h => by
  have hF := rEnds_ok (rd xs j)
  have hg : (ints .i64 xs)[j]? = some [.int .i64 (rd xs j)] := by simp [ints, rd_at xs j (by omega), show j < xs.length by omega]
  refine ref02_Atom_l0 ?_
  unfold ref02_Atom_R0
  have e : IntKind.wrap .i64 ((j : Int) + 1) = ((j + 1 : Nat) : Int) := w64 (by omega) (by omega)
  rw [ints_len, dec_t, dec_f, e]
  rw [drop_rd' xs j (by omega), List.any_cons] at h
  refine ⟨fun _ => ⟨by omega, _, hg, _, hF, fun h1 => hN (by rw [h, h1, Bool.true_or]), fun h1 => ?_⟩, fun h => by omega⟩
  exact rAtom_loop T xs hl R hS hN d (j + 1) (by omega) (by rw [h, h1, Bool.false_or])
set_option maxHeartbeats 1000000 in
theorem rAtom_ok (T : List Int) (hT : Bytes T) (hlen : T.length ≤ 16777216) : Fn Tryz.prog 74 [.one (.fz (.str (bytesOf T)))] [] (atomT T) [] := by
 refine ref02_Atom_fn _ ?_
 obtain ⟨R, hR, hRe⟩ : ∃ R : TV → List Ob → Prop, R (atomT T) [] ∧ (fun r' h' => r' = atomT T ∧ h' = []) = R := ⟨_, ⟨rfl, rfl⟩, rfl⟩
 rw [hRe]
 clear hRe
 unfold ref02_Atom_H
 obtain ⟨e1, e2, e3, e4, e5, e6⟩ := atom_eqs hT
 rw [map_bs, bs_of hT, e1, e2, e3, e4, e6, size_of]
 clear e1 e2 e3 e4 e5 e6
 refine ⟨fun h => ?_, fun h1 => ⟨fun h => ?_, fun h2 => ⟨fun h => ?_, fun h3 => ⟨fun h => ?_, fun h4 => ?_⟩⟩⟩⟩
 ·rw [atomT_8 (.inl (of_decide_eq_true h))] at hR; exact hR
 ·rw [atomT_8 (.inr (of_decide_eq_true h))] at hR; exact hR
 ·rw [atomT_9 (.inl (of_decide_eq_true h))] at hR; exact hR
 ·rw [atomT_9 (.inr (of_decide_eq_true h))] at hR; exact hR
 have g1 : ¬ trueP T := fun h => h.elim (of_decide_eq_false h1) (of_decide_eq_false h2)
 have g2 : ¬ falseP T := fun h => h.elim (of_decide_eq_false h3) (of_decide_eq_false h4)
 refine ⟨_, _, _, rparse_ok T hT (by omega), fun h => ?_, fun h5 => ?_⟩
 ·rw [atomT_7 g1 g2 h] at hR; exact hR
 have hS : symP T → R (atT 4 (bytesOf T) false [] true) [] := fun h => by rw [atomT_4 g1 g2 h5 h] at hR; exact hR
 have hN : ¬ symP T → R (atT 0 (ByteArray.mk #[]) false [] false) [] := fun h => by rw [atomT_0 g1 g2 h5 h] at hR; exact hR
 clear hR
 refine ⟨fun h => hN fun hs => ?_, fun h => ?_⟩
 ·have h1 := of_decide_eq_true h
  have := List.length_pos_iff.2 hs.1
  omega
 have hne : T ≠ [] := by
  have h1 := of_decide_eq_false h
  exact List.length_pos_iff.1 (by omega)
 refine ⟨fun h => hN fun hs => ?_, fun h => ?_⟩
 ·have := of_decide_eq_true h
  have := hs.2.2.1
  omega
 have hl : ¬ 64 < T.length := by have := of_decide_eq_false h; omega
 refine ⟨fun h => hN fun hs => hs.2.1 (of_decide_eq_true h), fun h6 => ⟨by omega, ?_⟩⟩
 obtain ⟨c, hcc, hcn⟩ := byte0 hT hne
 refine ⟨c, hcc, ?_⟩
 rw [hcn, beq_t, beq_f]
 refine ⟨fun h => hN fun hs => hs.2.2.2.2.2.1 h, fun h8 => ⟨_, rdigit_ok T hT 0, fun h => hN fun hs => ?_, fun h9 => ⟨by omega, c, hcc, ?_⟩⟩⟩
 ·have := hs.2.2.2.2.2.2.1
  rw [h] at this; cases this
 rw [hcn, beq_t, beq_f]
 have last : ¬ ((rd T 0 = 43 ∨ rd T 0 = 45) ∧ digB T 1 = true) → (decide ((0 : Int) ≤ (chars T).2) = true → R (atT 0 (ByteArray.mk #[]) false [] false) []) ∧ (decide ((0 : Int) ≤ (chars T).2) = false → ref02_Atom_L0 R (bytesOf T) (ints .i64 (chL T)) 0) := by
  intro hsg
  refine ⟨fun h => hN fun hs => ?_, fun h => ?_⟩
  ·have h1 := of_decide_eq_true h
   have := hs.2.2.2.1
   omega
  ·have h1 := of_decide_eq_false h
   have hc : (chars T).2 = -1 := by
    rcases chs_bad (T.length + 1) 0 T [] with h2 | h2
    ·exact h2
    ·exact absurd h2 h1
   rw [chL_eq T hc]
   have hcl := chars_len T
   refine rAtom_loop T _ (by omega) R (fun h7 => hS ⟨hne, of_decide_eq_false h6, by omega, hc, h7, h8, h9, hsg⟩) (fun h7 => hN fun hs => ?_) (chars T).1.length 0 (by omega) rfl
   have := hs.2.2.2.2.1
   rw [h7] at this; cases this
 refine ⟨fun h => ⟨_, rdigit_ok T hT 1, fun h2 => hN fun hs => hs.2.2.2.2.2.2.2 ⟨.inl h, h2⟩, fun h2 => ⟨_, _, rChars_ok T hT (by omega), last fun hx => by rw [hx.2] at h2; cases h2⟩⟩, fun h43 => ⟨by omega, c, hcc, ?_⟩⟩
 rw [hcn, beq_t, beq_f]
 refine ⟨fun h => ⟨_, rdigit_ok T hT 1, fun h2 => hN fun hs => hs.2.2.2.2.2.2.2 ⟨.inr h, h2⟩, fun h2 => ⟨_, _, rChars_ok T hT (by omega), last fun hx => by rw [hx.2] at h2; cases h2⟩⟩, fun h45 => ⟨_, _, rChars_ok T hT (by omega), last fun hx => hx.1.elim h43 h45⟩⟩
end Go.Proofs.YtenkkekooimpjaaGreatDoor.Ev
end
section
set_option linter.unusedVariables false
set_option maxRecDepth 100000
namespace Go.Proofs.YtenkkekooimpjaaGreatDoor.Ev
open Go
def unicode_utf8_AppendRune1_lv : List Nat → Keep := lvOf []
def unicode_utf8_AppendRune1_H (R : TV → List Ob → Prop) (rn : Int) (o : List (List FV)) : Prop :=
 ((((decide ((IntKind.wrap .u32 rn) ≤ 127)) = true) → (((((List.length o) + (List.length [[(FV.int .u8 (IntKind.wrap .u8 rn))]])) * 1) ≤ 220000000000000) ∧ (R (TV.one (AV.ofl 1 1)) [Ob.no, (Ob.f 0 1 (o ++ [[(FV.int .u8 (IntKind.wrap .u8 rn))]]))]))) ∧ (((decide ((IntKind.wrap .u32 rn) ≤ 127)) = false) → (∃ es1 : LL, ((Fn Tryz.prog 210 [(TV.one (AV.ofl 1 0)), (TV.one (AV.fz (FV.int .i32 rn)))] [(Ob.f 0 1 o)] (TV.one (AV.ofl 1 1)) [Ob.no, (Ob.f 0 1 es1)]) ∧ (R (TV.one (AV.ofl 1 1)) [Ob.no, (Ob.f 0 1 es1)])))))
theorem unicode_utf8_AppendRune1_fn (rn : Int) (o : LL) {r : TV} {h : List Ob} (H : unicode_utf8_AppendRune1_H (fun r' h' => r' = r ∧ Wk h' h) rn o) : Fn Tryz.prog 183 [(TV.one (AV.ofl 1 0)), (TV.one (AV.fz (FV.int .i32 rn)))] [(Ob.f 0 1 o)] r h :=
 Fn.by_trW (M := (modeOf [] [(210, [(Sig.mk 1 [(false, [(AT.a (AV.ofl 1 1))])] [OT.no, (OT.f 0 1)] 1)])])) (lv := unicode_utf8_AppendRune1_lv) (own := (some 1)) (F := Tryz.f183) (by kernel_rfl) (by kernel_rfl) (by first | decide | simp) (fun _ _ h => h) (by kernel_rfl) H
def unicode_utf8_appendRuneNonASCII1_lv : List Nat → Keep := lvOf []
def unicode_utf8_appendRuneNonASCII1_H (R : TV → List Ob → Prop) (rn : Int) (o : List (List FV)) : Prop :=
 ((((decide ((IntKind.wrap .u32 rn) ≤ 2047)) = true) → (((0 : Int) ≤ 6) ∧ (((((List.length o) + (List.length [[(FV.int .u8 (IntKind.wrap .u8 (((BitVec.toNat ((BitVec.ofInt 8 192) ||| (BitVec.ofInt 8 (IntKind.wrap .u8 (Int.fdiv rn (2 ^ (min (Int.toNat 6) 32))))))) : Nat) : Int)))], [(FV.int .u8 (IntKind.wrap .u8 (((BitVec.toNat ((BitVec.ofInt 8 128) ||| (BitVec.ofInt 8 (IntKind.wrap .u8 (((BitVec.toNat ((BitVec.ofInt 8 (IntKind.wrap .u8 rn)) &&& (BitVec.ofInt 8 63))) : Nat) : Int))))) : Nat) : Int)))]])) * 1) ≤ 220000000000000) ∧ (R (TV.one (AV.ofl 1 1)) [Ob.no, (Ob.f 0 1 (o ++ [[(FV.int .u8 (IntKind.wrap .u8 (((BitVec.toNat ((BitVec.ofInt 8 192) ||| (BitVec.ofInt 8 (IntKind.wrap .u8 (Int.fdiv rn (2 ^ (min (Int.toNat 6) 32))))))) : Nat) : Int)))], [(FV.int .u8 (IntKind.wrap .u8 (((BitVec.toNat ((BitVec.ofInt 8 128) ||| (BitVec.ofInt 8 (IntKind.wrap .u8 (((BitVec.toNat ((BitVec.ofInt 8 (IntKind.wrap .u8 rn)) &&& (BitVec.ofInt 8 63))) : Nat) : Int))))) : Nat) : Int)))]]))])))) ∧ (((decide ((IntKind.wrap .u32 rn) ≤ 2047)) = false) → ((((decide ((IntKind.wrap .u32 rn) < 55296)) = true) → (((0 : Int) ≤ 12) ∧ (((0 : Int) ≤ 6) ∧ (((((List.length o) + (List.length [[(FV.int .u8 (IntKind.wrap .u8 (((BitVec.toNat ((BitVec.ofInt 8 224) ||| (BitVec.ofInt 8 (IntKind.wrap .u8 (Int.fdiv rn (2 ^ (min (Int.toNat 12) 32))))))) : Nat) : Int)))], [(FV.int .u8 (IntKind.wrap .u8 (((BitVec.toNat ((BitVec.ofInt 8 128) ||| (BitVec.ofInt 8 (IntKind.wrap .u8 (((BitVec.toNat ((BitVec.ofInt 8 (IntKind.wrap .u8 (Int.fdiv rn (2 ^ (min (Int.toNat 6) 32))))) &&& (BitVec.ofInt 8 63))) : Nat) : Int))))) : Nat) : Int)))], [(FV.int .u8 (IntKind.wrap .u8 (((BitVec.toNat ((BitVec.ofInt 8 128) ||| (BitVec.ofInt 8 (IntKind.wrap .u8 (((BitVec.toNat ((BitVec.ofInt 8 (IntKind.wrap .u8 rn)) &&& (BitVec.ofInt 8 63))) : Nat) : Int))))) : Nat) : Int)))]])) * 1) ≤ 220000000000000) ∧ (R (TV.one (AV.ofl 1 1)) [Ob.no, (Ob.f 0 1 (o ++ [[(FV.int .u8 (IntKind.wrap .u8 (((BitVec.toNat ((BitVec.ofInt 8 224) ||| (BitVec.ofInt 8 (IntKind.wrap .u8 (Int.fdiv rn (2 ^ (min (Int.toNat 12) 32))))))) : Nat) : Int)))], [(FV.int .u8 (IntKind.wrap .u8 (((BitVec.toNat ((BitVec.ofInt 8 128) ||| (BitVec.ofInt 8 (IntKind.wrap .u8 (((BitVec.toNat ((BitVec.ofInt 8 (IntKind.wrap .u8 (Int.fdiv rn (2 ^ (min (Int.toNat 6) 32))))) &&& (BitVec.ofInt 8 63))) : Nat) : Int))))) : Nat) : Int)))], [(FV.int .u8 (IntKind.wrap .u8 (((BitVec.toNat ((BitVec.ofInt 8 128) ||| (BitVec.ofInt 8 (IntKind.wrap .u8 (((BitVec.toNat ((BitVec.ofInt 8 (IntKind.wrap .u8 rn)) &&& (BitVec.ofInt 8 63))) : Nat) : Int))))) : Nat) : Int)))]]))]))))) ∧ (((decide ((IntKind.wrap .u32 rn) < 55296)) = false) → ((((decide ((57343 : Int) < (IntKind.wrap .u32 rn))) = true) → ((((decide ((IntKind.wrap .u32 rn) ≤ 65535)) = true) → (((0 : Int) ≤ 12) ∧ (((0 : Int) ≤ 6) ∧ (((((List.length o) + (List.length [[(FV.int .u8 (IntKind.wrap .u8 (((BitVec.toNat ((BitVec.ofInt 8 224) ||| (BitVec.ofInt 8 (IntKind.wrap .u8 (Int.fdiv rn (2 ^ (min (Int.toNat 12) 32))))))) : Nat) : Int)))], [(FV.int .u8 (IntKind.wrap .u8 (((BitVec.toNat ((BitVec.ofInt 8 128) ||| (BitVec.ofInt 8 (IntKind.wrap .u8 (((BitVec.toNat ((BitVec.ofInt 8 (IntKind.wrap .u8 (Int.fdiv rn (2 ^ (min (Int.toNat 6) 32))))) &&& (BitVec.ofInt 8 63))) : Nat) : Int))))) : Nat) : Int)))], [(FV.int .u8 (IntKind.wrap .u8 (((BitVec.toNat ((BitVec.ofInt 8 128) ||| (BitVec.ofInt 8 (IntKind.wrap .u8 (((BitVec.toNat ((BitVec.ofInt 8 (IntKind.wrap .u8 rn)) &&& (BitVec.ofInt 8 63))) : Nat) : Int))))) : Nat) : Int)))]])) * 1) ≤ 220000000000000) ∧ (R (TV.one (AV.ofl 1 1)) [Ob.no, (Ob.f 0 1 (o ++ [[(FV.int .u8 (IntKind.wrap .u8 (((BitVec.toNat ((BitVec.ofInt 8 224) ||| (BitVec.ofInt 8 (IntKind.wrap .u8 (Int.fdiv rn (2 ^ (min (Int.toNat 12) 32))))))) : Nat) : Int)))], [(FV.int .u8 (IntKind.wrap .u8 (((BitVec.toNat ((BitVec.ofInt 8 128) ||| (BitVec.ofInt 8 (IntKind.wrap .u8 (((BitVec.toNat ((BitVec.ofInt 8 (IntKind.wrap .u8 (Int.fdiv rn (2 ^ (min (Int.toNat 6) 32))))) &&& (BitVec.ofInt 8 63))) : Nat) : Int))))) : Nat) : Int)))], [(FV.int .u8 (IntKind.wrap .u8 (((BitVec.toNat ((BitVec.ofInt 8 128) ||| (BitVec.ofInt 8 (IntKind.wrap .u8 (((BitVec.toNat ((BitVec.ofInt 8 (IntKind.wrap .u8 rn)) &&& (BitVec.ofInt 8 63))) : Nat) : Int))))) : Nat) : Int)))]]))]))))) ∧ (((decide ((IntKind.wrap .u32 rn) ≤ 65535)) = false) → ((((decide ((65535 : Int) < (IntKind.wrap .u32 rn))) = true) → ((((decide ((IntKind.wrap .u32 rn) ≤ 1114111)) = true) → (((0 : Int) ≤ 18) ∧ (((0 : Int) ≤ 12) ∧ (((0 : Int) ≤ 6) ∧ (((((List.length o) + (List.length [[(FV.int .u8 (IntKind.wrap .u8 (((BitVec.toNat ((BitVec.ofInt 8 240) ||| (BitVec.ofInt 8 (IntKind.wrap .u8 (Int.fdiv rn (2 ^ (min (Int.toNat 18) 32))))))) : Nat) : Int)))], [(FV.int .u8 (IntKind.wrap .u8 (((BitVec.toNat ((BitVec.ofInt 8 128) ||| (BitVec.ofInt 8 (IntKind.wrap .u8 (((BitVec.toNat ((BitVec.ofInt 8 (IntKind.wrap .u8 (Int.fdiv rn (2 ^ (min (Int.toNat 12) 32))))) &&& (BitVec.ofInt 8 63))) : Nat) : Int))))) : Nat) : Int)))], [(FV.int .u8 (IntKind.wrap .u8 (((BitVec.toNat ((BitVec.ofInt 8 128) ||| (BitVec.ofInt 8 (IntKind.wrap .u8 (((BitVec.toNat ((BitVec.ofInt 8 (IntKind.wrap .u8 (Int.fdiv rn (2 ^ (min (Int.toNat 6) 32))))) &&& (BitVec.ofInt 8 63))) : Nat) : Int))))) : Nat) : Int)))], [(FV.int .u8 (IntKind.wrap .u8 (((BitVec.toNat ((BitVec.ofInt 8 128) ||| (BitVec.ofInt 8 (IntKind.wrap .u8 (((BitVec.toNat ((BitVec.ofInt 8 (IntKind.wrap .u8 rn)) &&& (BitVec.ofInt 8 63))) : Nat) : Int))))) : Nat) : Int)))]])) * 1) ≤ 220000000000000) ∧ (R (TV.one (AV.ofl 1 1)) [Ob.no, (Ob.f 0 1 (o ++ [[(FV.int .u8 (IntKind.wrap .u8 (((BitVec.toNat ((BitVec.ofInt 8 240) ||| (BitVec.ofInt 8 (IntKind.wrap .u8 (Int.fdiv rn (2 ^ (min (Int.toNat 18) 32))))))) : Nat) : Int)))], [(FV.int .u8 (IntKind.wrap .u8 (((BitVec.toNat ((BitVec.ofInt 8 128) ||| (BitVec.ofInt 8 (IntKind.wrap .u8 (((BitVec.toNat ((BitVec.ofInt 8 (IntKind.wrap .u8 (Int.fdiv rn (2 ^ (min (Int.toNat 12) 32))))) &&& (BitVec.ofInt 8 63))) : Nat) : Int))))) : Nat) : Int)))], [(FV.int .u8 (IntKind.wrap .u8 (((BitVec.toNat ((BitVec.ofInt 8 128) ||| (BitVec.ofInt 8 (IntKind.wrap .u8 (((BitVec.toNat ((BitVec.ofInt 8 (IntKind.wrap .u8 (Int.fdiv rn (2 ^ (min (Int.toNat 6) 32))))) &&& (BitVec.ofInt 8 63))) : Nat) : Int))))) : Nat) : Int)))], [(FV.int .u8 (IntKind.wrap .u8 (((BitVec.toNat ((BitVec.ofInt 8 128) ||| (BitVec.ofInt 8 (IntKind.wrap .u8 (((BitVec.toNat ((BitVec.ofInt 8 (IntKind.wrap .u8 rn)) &&& (BitVec.ofInt 8 63))) : Nat) : Int))))) : Nat) : Int)))]]))])))))) ∧ (((decide ((IntKind.wrap .u32 rn) ≤ 1114111)) = false) → (((((List.length o) + (List.length [[(FV.int .u8 239)], [(FV.int .u8 191)], [(FV.int .u8 189)]])) * 1) ≤ 220000000000000) ∧ (R (TV.one (AV.ofl 1 1)) [Ob.no, (Ob.f 0 1 (o ++ [[(FV.int .u8 239)], [(FV.int .u8 191)], [(FV.int .u8 189)]]))]))))) ∧ (((decide ((65535 : Int) < (IntKind.wrap .u32 rn))) = false) → (((((List.length o) + (List.length [[(FV.int .u8 239)], [(FV.int .u8 191)], [(FV.int .u8 189)]])) * 1) ≤ 220000000000000) ∧ (R (TV.one (AV.ofl 1 1)) [Ob.no, (Ob.f 0 1 (o ++ [[(FV.int .u8 239)], [(FV.int .u8 191)], [(FV.int .u8 189)]]))]))))))) ∧ (((decide ((57343 : Int) < (IntKind.wrap .u32 rn))) = false) → ((((decide ((65535 : Int) < (IntKind.wrap .u32 rn))) = true) → ((((decide ((IntKind.wrap .u32 rn) ≤ 1114111)) = true) → (((0 : Int) ≤ 18) ∧ (((0 : Int) ≤ 12) ∧ (((0 : Int) ≤ 6) ∧ (((((List.length o) + (List.length [[(FV.int .u8 (IntKind.wrap .u8 (((BitVec.toNat ((BitVec.ofInt 8 240) ||| (BitVec.ofInt 8 (IntKind.wrap .u8 (Int.fdiv rn (2 ^ (min (Int.toNat 18) 32))))))) : Nat) : Int)))], [(FV.int .u8 (IntKind.wrap .u8 (((BitVec.toNat ((BitVec.ofInt 8 128) ||| (BitVec.ofInt 8 (IntKind.wrap .u8 (((BitVec.toNat ((BitVec.ofInt 8 (IntKind.wrap .u8 (Int.fdiv rn (2 ^ (min (Int.toNat 12) 32))))) &&& (BitVec.ofInt 8 63))) : Nat) : Int))))) : Nat) : Int)))], [(FV.int .u8 (IntKind.wrap .u8 (((BitVec.toNat ((BitVec.ofInt 8 128) ||| (BitVec.ofInt 8 (IntKind.wrap .u8 (((BitVec.toNat ((BitVec.ofInt 8 (IntKind.wrap .u8 (Int.fdiv rn (2 ^ (min (Int.toNat 6) 32))))) &&& (BitVec.ofInt 8 63))) : Nat) : Int))))) : Nat) : Int)))], [(FV.int .u8 (IntKind.wrap .u8 (((BitVec.toNat ((BitVec.ofInt 8 128) ||| (BitVec.ofInt 8 (IntKind.wrap .u8 (((BitVec.toNat ((BitVec.ofInt 8 (IntKind.wrap .u8 rn)) &&& (BitVec.ofInt 8 63))) : Nat) : Int))))) : Nat) : Int)))]])) * 1) ≤ 220000000000000) ∧ (R (TV.one (AV.ofl 1 1)) [Ob.no, (Ob.f 0 1 (o ++ [[(FV.int .u8 (IntKind.wrap .u8 (((BitVec.toNat ((BitVec.ofInt 8 240) ||| (BitVec.ofInt 8 (IntKind.wrap .u8 (Int.fdiv rn (2 ^ (min (Int.toNat 18) 32))))))) : Nat) : Int)))], [(FV.int .u8 (IntKind.wrap .u8 (((BitVec.toNat ((BitVec.ofInt 8 128) ||| (BitVec.ofInt 8 (IntKind.wrap .u8 (((BitVec.toNat ((BitVec.ofInt 8 (IntKind.wrap .u8 (Int.fdiv rn (2 ^ (min (Int.toNat 12) 32))))) &&& (BitVec.ofInt 8 63))) : Nat) : Int))))) : Nat) : Int)))], [(FV.int .u8 (IntKind.wrap .u8 (((BitVec.toNat ((BitVec.ofInt 8 128) ||| (BitVec.ofInt 8 (IntKind.wrap .u8 (((BitVec.toNat ((BitVec.ofInt 8 (IntKind.wrap .u8 (Int.fdiv rn (2 ^ (min (Int.toNat 6) 32))))) &&& (BitVec.ofInt 8 63))) : Nat) : Int))))) : Nat) : Int)))], [(FV.int .u8 (IntKind.wrap .u8 (((BitVec.toNat ((BitVec.ofInt 8 128) ||| (BitVec.ofInt 8 (IntKind.wrap .u8 (((BitVec.toNat ((BitVec.ofInt 8 (IntKind.wrap .u8 rn)) &&& (BitVec.ofInt 8 63))) : Nat) : Int))))) : Nat) : Int)))]]))])))))) ∧ (((decide ((IntKind.wrap .u32 rn) ≤ 1114111)) = false) → (((((List.length o) + (List.length [[(FV.int .u8 239)], [(FV.int .u8 191)], [(FV.int .u8 189)]])) * 1) ≤ 220000000000000) ∧ (R (TV.one (AV.ofl 1 1)) [Ob.no, (Ob.f 0 1 (o ++ [[(FV.int .u8 239)], [(FV.int .u8 191)], [(FV.int .u8 189)]]))]))))) ∧ (((decide ((65535 : Int) < (IntKind.wrap .u32 rn))) = false) → (((((List.length o) + (List.length [[(FV.int .u8 239)], [(FV.int .u8 191)], [(FV.int .u8 189)]])) * 1) ≤ 220000000000000) ∧ (R (TV.one (AV.ofl 1 1)) [Ob.no, (Ob.f 0 1 (o ++ [[(FV.int .u8 239)], [(FV.int .u8 191)], [(FV.int .u8 189)]]))]))))))))))
theorem unicode_utf8_appendRuneNonASCII1_fn (rn : Int) (o : LL) {r : TV} {h : List Ob} (H : unicode_utf8_appendRuneNonASCII1_H (fun r' h' => r' = r ∧ Wk h' h) rn o) : Fn Tryz.prog 210 [(TV.one (AV.ofl 1 0)), (TV.one (AV.fz (FV.int .i32 rn)))] [(Ob.f 0 1 o)] r h :=
 Fn.by_trW (M := (modeOf [] [])) (lv := unicode_utf8_appendRuneNonASCII1_lv) (own := (some 1)) (F := Tryz.f210) (by kernel_rfl) (by kernel_rfl) (by first | decide | simp) (fun _ _ h => h) (by kernel_rfl) H
def unicode_utf8_ValidRune_lv : List Nat → Keep := lvOf []
def unicode_utf8_ValidRune_H (R : TV → List Ob → Prop) (r_ : Int) : Prop :=
 ((((decide ((0 : Int) ≤ r_)) = true) → ((((decide (r_ < 55296)) = true) → (R (TV.one (AV.fz (FV.bool true))) [])) ∧ (((decide (r_ < 55296)) = false) → ((((decide ((57343 : Int) < r_)) = true) → ((((decide (r_ ≤ 1114111)) = true) → (R (TV.one (AV.fz (FV.bool true))) [])) ∧ (((decide (r_ ≤ 1114111)) = false) → (R (TV.one (AV.fz (FV.bool false))) [])))) ∧ (((decide ((57343 : Int) < r_)) = false) → (R (TV.one (AV.fz (FV.bool false))) [])))))) ∧ (((decide ((0 : Int) ≤ r_)) = false) → ((((decide ((57343 : Int) < r_)) = true) → ((((decide (r_ ≤ 1114111)) = true) → (R (TV.one (AV.fz (FV.bool true))) [])) ∧ (((decide (r_ ≤ 1114111)) = false) → (R (TV.one (AV.fz (FV.bool false))) [])))) ∧ (((decide ((57343 : Int) < r_)) = false) → (R (TV.one (AV.fz (FV.bool false))) [])))))
theorem unicode_utf8_ValidRune_fn (r_ : Int) {r : TV} {h : List Ob} (H : unicode_utf8_ValidRune_H (fun r' h' => r' = r ∧ h' = h) r_) : Fn Tryz.prog 100 [(TV.one (AV.fz (FV.int .i32 r_)))] [] r h :=
 Fn.by_tr (M := (modeOf [] [])) (lv := unicode_utf8_ValidRune_lv) (own := none) (F := Tryz.f100) (by kernel_rfl) (by kernel_rfl) (by first | decide | simp) (fun _ _ h => h) (by kernel_rfl) H
def strings_CutPrefix_lv : List Nat → Keep := lvOf []
def strings_CutPrefix_H (R : TV → List Ob → Prop) (s : ByteArray) (prefix_ : ByteArray) : Prop :=
 (∃ s2 : ByteArray, (∃ b1 : Bool, ((Fn Tryz.prog 211 [(TV.one (AV.fz (FV.str s))), (TV.one (AV.fz (FV.str prefix_)))] [] (TV.tup [(false, [(AV.fz (FV.str s2))]), (false, [(AV.fz (FV.bool b1))])]) []) ∧ (R (TV.tup [(false, [(AV.fz (FV.str s2))]), (false, [(AV.fz (FV.bool b1))])]) []))))
theorem strings_CutPrefix_fn (s : ByteArray) (prefix_ : ByteArray) {r : TV} {h : List Ob} (H : strings_CutPrefix_H (fun r' h' => r' = r ∧ h' = h) s prefix_) : Fn Tryz.prog 185 [(TV.one (AV.fz (FV.str s))), (TV.one (AV.fz (FV.str prefix_)))] [] r h :=
 Fn.by_tr (M := (modeOf [] [])) (lv := strings_CutPrefix_lv) (own := none) (F := Tryz.f185) (by kernel_rfl) (by kernel_rfl) (by first | decide | simp) (fun _ _ h => h) (by kernel_rfl) H
def internal_stringslite_CutPrefix_lv : List Nat → Keep := lvOf []
def internal_stringslite_CutPrefix_H (R : TV → List Ob → Prop) (s : ByteArray) (prefix_ : ByteArray) : Prop :=
 (∃ b1 : Bool, ((Fn Tryz.prog 165 [(TV.one (AV.fz (FV.str s))), (TV.one (AV.fz (FV.str prefix_)))] [] (TV.one (AV.fz (FV.bool b1))) []) ∧ ((((Bool.not b1) = true) → (R (TV.tup [(false, [(AV.fz (FV.str s))]), (false, [(AV.fz (FV.bool false))])]) [])) ∧ (((Bool.not b1) = false) → ((((0 : Int) ≤ (((ByteArray.size prefix_) : Nat) : Int)) ∧ ((((ByteArray.size prefix_) : Nat) : Int) ≤ (((ByteArray.size s) : Nat) : Int))) ∧ (R (TV.tup [(false, [(AV.fz (FV.str (ByteArray.extract s (Int.toNat (((ByteArray.size prefix_) : Nat) : Int)) (ByteArray.size s))))]), (false, [(AV.fz (FV.bool true))])]) []))))))
theorem internal_stringslite_CutPrefix_fn (s : ByteArray) (prefix_ : ByteArray) {r : TV} {h : List Ob} (H : internal_stringslite_CutPrefix_H (fun r' h' => r' = r ∧ h' = h) s prefix_) : Fn Tryz.prog 211 [(TV.one (AV.fz (FV.str s))), (TV.one (AV.fz (FV.str prefix_)))] [] r h :=
 Fn.by_tr (M := (modeOf [] [])) (lv := internal_stringslite_CutPrefix_lv) (own := none) (F := Tryz.f211) (by kernel_rfl) (by kernel_rfl) (by first | decide | simp) (fun _ _ h => h) (by kernel_rfl) H
def internal_stringslite_HasPrefix_lv : List Nat → Keep := lvOf []
def internal_stringslite_HasPrefix_H (R : TV → List Ob → Prop) (s : ByteArray) (prefix_ : ByteArray) : Prop :=
 ((((decide ((((ByteArray.size prefix_) : Nat) : Int) ≤ (((ByteArray.size s) : Nat) : Int))) = true) → ((((0 : Int) ≤ (((ByteArray.size prefix_) : Nat) : Int)) ∧ ((((ByteArray.size prefix_) : Nat) : Int) ≤ (((ByteArray.size s) : Nat) : Int))) ∧ (R (TV.one (AV.fz (FV.bool ((ByteArray.toList (ByteArray.extract s 0 (Int.toNat (((ByteArray.size prefix_) : Nat) : Int)))) == (ByteArray.toList prefix_))))) []))) ∧ (((decide ((((ByteArray.size prefix_) : Nat) : Int) ≤ (((ByteArray.size s) : Nat) : Int))) = false) → (R (TV.one (AV.fz (FV.bool false))) [])))
theorem internal_stringslite_HasPrefix_fn (s : ByteArray) (prefix_ : ByteArray) {r : TV} {h : List Ob} (H : internal_stringslite_HasPrefix_H (fun r' h' => r' = r ∧ h' = h) s prefix_) : Fn Tryz.prog 165 [(TV.one (AV.fz (FV.str s))), (TV.one (AV.fz (FV.str prefix_)))] [] r h :=
 Fn.by_tr (M := (modeOf [] [])) (lv := internal_stringslite_HasPrefix_lv) (own := none) (F := Tryz.f165) (by kernel_rfl) (by kernel_rfl) (by first | decide | simp) (fun _ _ h => h) (by kernel_rfl) H
def internal_strconv_lower_lv : List Nat → Keep := lvOf []
def internal_strconv_lower_H (R : TV → List Ob → Prop) (c : Int) : Prop :=
 (R (TV.one (AV.fz (FV.int .u8 (IntKind.wrap .u8 (((BitVec.toNat ((BitVec.ofInt 8 c) ||| (BitVec.ofInt 8 32))) : Nat) : Int))))) [])
theorem internal_strconv_lower_fn (c : Int) {r : TV} {h : List Ob} (H : internal_strconv_lower_H (fun r' h' => r' = r ∧ h' = h) c) : Fn Tryz.prog 224 [(TV.one (AV.fz (FV.int .u8 c)))] [] r h :=
 Fn.by_tr (M := (modeOf [] [])) (lv := internal_strconv_lower_lv) (own := none) (F := Tryz.f224) (by kernel_rfl) (by kernel_rfl) (by first | decide | simp) (fun _ _ h => h) (by kernel_rfl) H
end Go.Proofs.YtenkkekooimpjaaGreatDoor.Ev
end
section
set_option linter.unusedVariables false
set_option maxRecDepth 100000
namespace Go.Proofs.YtenkkekooimpjaaGreatDoor.Ev
open Go
def token_scanner_leftO_lv : List Nat → Keep := lvOf []
def token_scanner_leftO_H (R : TV → List Ob → Prop) (n : Int) (tx : List (List FV)) (p : Int) : Prop :=
 (R (TV.one (AV.fz (FV.bool (decide ((IntKind.wrap .i64 (p + n)) ≤ (((List.length tx) : Nat) : Int)))))) [(Ob.g 110 [(AV.fz (FV.sl 1 tx)), (AV.fz (FV.int .i64 p))])])
theorem token_scanner_leftO_fn (n : Int) (tx : LL) (p : Int) {r : TV} {h : List Ob} (H : token_scanner_leftO_H (fun r' h' => r' = r ∧ Wk h' h) n tx p) : Fn Tryz.prog 67 [(TV.one (AV.ptr 0 0 0 110)), (TV.one (AV.fz (FV.int .i64 n)))] [(Ob.g 110 [(AV.fz (FV.sl 1 tx)), (AV.fz (FV.int .i64 p))])] r h :=
 Fn.by_trW (M := (modeOf [] [])) (lv := token_scanner_leftO_lv) (own := (some 1)) (F := Tryz.f67) (by kernel_rfl) (by kernel_rfl) (by first | decide | simp) (fun _ _ h => h) (by kernel_rfl) H
def token_scanner_peekO_lv : List Nat → Keep := lvOf []
def token_scanner_peekO_H (R : TV → List Ob → Prop) (n : Int) (tx : List (List FV)) (p : Int) : Prop :=
 (∃ es1 : LL, (∃ n3 : Int, (∃ b1 : Bool, ((Fn Tryz.prog 67 [(TV.one (AV.ptr 0 0 0 110)), (TV.one (AV.fz (FV.int .i64 (IntKind.wrap .i64 (n + 1)))))] [(Ob.g 110 [(AV.fz (FV.sl 1 tx)), (AV.fz (FV.int .i64 p))])] (TV.one (AV.fz (FV.bool b1))) [(Ob.g 110 [(AV.fz (FV.sl 1 es1)), (AV.fz (FV.int .i64 n3))])]) ∧ ((((Bool.not b1) = true) → (R (TV.one (AV.fz (FV.int .i64 (-1)))) [(Ob.g 110 [(AV.fz (FV.sl 1 es1)), (AV.fz (FV.int .i64 n3))])])) ∧ (((Bool.not b1) = false) → (((0 : Int) ≤ (IntKind.wrap .i64 (n3 + n))) ∧ (∃ n4 : Int, (((es1)[(Int.toNat (IntKind.wrap .i64 (n3 + n)))]? = (some [(FV.int .i64 n4)])) ∧ (R (TV.one (AV.fz (FV.int .i64 n4))) [(Ob.g 110 [(AV.fz (FV.sl 1 es1)), (AV.fz (FV.int .i64 n3))])]))))))))))
theorem token_scanner_peekO_fn (n : Int) (tx : LL) (p : Int) {r : TV} {h : List Ob} (H : token_scanner_peekO_H (fun r' h' => r' = r ∧ Wk h' h) n tx p) : Fn Tryz.prog 101 [(TV.one (AV.ptr 0 0 0 110)), (TV.one (AV.fz (FV.int .i64 n)))] [(Ob.g 110 [(AV.fz (FV.sl 1 tx)), (AV.fz (FV.int .i64 p))])] r h :=
 Fn.by_trW (M := (modeOf [] [(67, [(Sig.mk 1 [(false, [(AT.k CK.bool)])] [(OT.g 110 [(AT.k (CK.sl 1)), (AT.k (CK.int .i64))])] 0)])])) (lv := token_scanner_peekO_lv) (own := (some 1)) (F := Tryz.f101) (by kernel_rfl) (by kernel_rfl) (by first | decide | simp) (fun _ _ h => h) (by kernel_rfl) H
def token_scanner_blanksO_lv : List Nat → Keep := lvOf [([0], ⟨1, 0, [], false, false⟩), ([0, 0, 1, 1, 1, 0, 1, 0, 0, 0], ⟨1, 0, [], false, false⟩)]
def token_scanner_blanksO_S0 (o : LL) (o1 : Int) : St := (St.mk [(TV.one (AV.ptr 0 0 0 110)), TV.und, TV.und, TV.und, TV.und, TV.und, TV.und, TV.und, TV.und, TV.und, TV.und, TV.und, TV.und, TV.und, TV.und, TV.und, TV.und, TV.und, TV.und, TV.und, TV.und, TV.und, TV.und, TV.und, TV.und, TV.und, TV.und, TV.und, TV.und, TV.und, TV.und, TV.und, TV.und, TV.und, TV.und, TV.und] [(Ob.g 110 [(AV.fz (FV.sl 1 o)), (AV.fz (FV.int .i64 o1))])])
def token_scanner_blanksO_L0 (R : TV → List Ob → Prop) (o : LL) (o1 : Int) : Prop := LoopAt Tryz.prog (modeOf [] [(67, [(Sig.mk 1 [(false, [(AT.k CK.bool)])] [(OT.g 110 [(AT.k (CK.sl 1)), (AT.k (CK.int .i64))])] 0)]), (101, [(Sig.mk 1 [(false, [(AT.k (CK.int .i64))])] [(OT.g 110 [(AT.k (CK.sl 1)), (AT.k (CK.int .i64))])] 0)])]) token_scanner_blanksO_lv Tryz.f66 (some 1) R [0] (token_scanner_blanksO_S0 o o1)
def token_scanner_blanksO_S1 (es : LL) (n : Int) : St := (St.mk [(TV.one (AV.ptr 0 0 0 110)), TV.und, TV.und, TV.und, TV.und, TV.und, TV.und, TV.und, TV.und, TV.und, TV.und, TV.und, TV.und, TV.und, TV.und, TV.und, TV.und, TV.und, TV.und, TV.und, TV.und, TV.und, TV.und, TV.und, TV.und, TV.und, TV.und, TV.und, TV.und, TV.und, TV.und, TV.und, TV.und, TV.und, TV.und, TV.und] [(Ob.g 110 [(AV.fz (FV.sl 1 es)), (AV.fz (FV.int .i64 n))])])
def token_scanner_blanksO_L1 (R : TV → List Ob → Prop) (es : LL) (n : Int) : Prop := LoopAt Tryz.prog (modeOf [] [(67, [(Sig.mk 1 [(false, [(AT.k CK.bool)])] [(OT.g 110 [(AT.k (CK.sl 1)), (AT.k (CK.int .i64))])] 0)]), (101, [(Sig.mk 1 [(false, [(AT.k (CK.int .i64))])] [(OT.g 110 [(AT.k (CK.sl 1)), (AT.k (CK.int .i64))])] 0)])]) token_scanner_blanksO_lv Tryz.f66 (some 1) R [0, 0, 0, 1, 0, 1, 1, 1, 0, 0] (token_scanner_blanksO_S1 es n)
def token_scanner_blanksO_R0 (R : TV → List Ob → Prop) (o : List (List FV)) (o1 : Int) : Prop :=
 (∃ es4 : LL, (∃ n7 : Int, (∃ n8 : Int, ((Fn Tryz.prog 101 [(TV.one (AV.ptr 0 0 0 110)), (TV.one (AV.fz (FV.int .i64 0)))] [(Ob.g 110 [(AV.fz (FV.sl 1 o)), (AV.fz (FV.int .i64 o1))])] (TV.one (AV.fz (FV.int .i64 n8))) [(Ob.g 110 [(AV.fz (FV.sl 1 es4)), (AV.fz (FV.int .i64 n7))])]) ∧ ((((decide ((0 : Int) ≤ n8)) = true) → (∃ b3 : Bool, ((Fn Tryz.prog 102 [(TV.one (AV.fz (FV.int .i64 n8)))] [] (TV.one (AV.fz (FV.bool b3))) []) ∧ (((b3 = true) → (token_scanner_blanksO_L0 R es4 (IntKind.wrap .i64 (n7 + 1)))) ∧ ((b3 = false) → ((((n8 == 59) = true) → (token_scanner_blanksO_L1 R es4 n7)) ∧ (((n8 == 59) = false) → (R (TV.tup []) [(Ob.g 110 [(AV.fz (FV.sl 1 es4)), (AV.fz (FV.int .i64 n7))])])))))))) ∧ (((decide ((0 : Int) ≤ n8)) = false) → ((((n8 == 59) = true) → (token_scanner_blanksO_L1 R es4 n7)) ∧ (((n8 == 59) = false) → (R (TV.tup []) [(Ob.g 110 [(AV.fz (FV.sl 1 es4)), (AV.fz (FV.int .i64 n7))])])))))))))
theorem token_scanner_blanksO_l0 {R : TV → List Ob → Prop} {o : LL} {o1 : Int} (h : token_scanner_blanksO_R0 R o o1) : token_scanner_blanksO_L0 R o o1 :=
 LoopAt.by_tr (by kernel_rfl) (by kernel_rfl) h
def token_scanner_blanksO_R1 (R : TV → List Ob → Prop) (es : List (List FV)) (n : Int) : Prop :=
 (∃ es4 : LL, (∃ n7 : Int, (∃ b3 : Bool, ((Fn Tryz.prog 67 [(TV.one (AV.ptr 0 0 0 110)), (TV.one (AV.fz (FV.int .i64 1)))] [(Ob.g 110 [(AV.fz (FV.sl 1 es)), (AV.fz (FV.int .i64 n))])] (TV.one (AV.fz (FV.bool b3))) [(Ob.g 110 [(AV.fz (FV.sl 1 es4)), (AV.fz (FV.int .i64 n7))])]) ∧ (((b3 = true) → (∃ es5 : LL, (∃ n8 : Int, (∃ n9 : Int, ((Fn Tryz.prog 101 [(TV.one (AV.ptr 0 0 0 110)), (TV.one (AV.fz (FV.int .i64 0)))] [(Ob.g 110 [(AV.fz (FV.sl 1 es4)), (AV.fz (FV.int .i64 n7))])] (TV.one (AV.fz (FV.int .i64 n9))) [(Ob.g 110 [(AV.fz (FV.sl 1 es5)), (AV.fz (FV.int .i64 n8))])]) ∧ ((((n9 != 10) = true) → (token_scanner_blanksO_L1 R es5 (IntKind.wrap .i64 (n8 + 1)))) ∧ (((n9 != 10) = false) → (token_scanner_blanksO_L0 R es5 n8)))))))) ∧ ((b3 = false) → (token_scanner_blanksO_L0 R es4 n7)))))))
theorem token_scanner_blanksO_l1 {R : TV → List Ob → Prop} {es : LL} {n : Int} (h : token_scanner_blanksO_R1 R es n) : token_scanner_blanksO_L1 R es n :=
 LoopAt.by_tr (by kernel_rfl) (by kernel_rfl) h
def token_scanner_blanksO_H (R : TV → List Ob → Prop) (tx : List (List FV)) (p : Int) : Prop :=
 (token_scanner_blanksO_L0 R tx p)
theorem token_scanner_blanksO_fn (tx : LL) (p : Int) {r : TV} {h : List Ob} (H : token_scanner_blanksO_H (fun r' h' => r' = r ∧ Wk h' h) tx p) : Fn Tryz.prog 66 [(TV.one (AV.ptr 0 0 0 110))] [(Ob.g 110 [(AV.fz (FV.sl 1 tx)), (AV.fz (FV.int .i64 p))])] r h :=
 Fn.by_trW (M := (modeOf [] [(67, [(Sig.mk 1 [(false, [(AT.k CK.bool)])] [(OT.g 110 [(AT.k (CK.sl 1)), (AT.k (CK.int .i64))])] 0)]), (101, [(Sig.mk 1 [(false, [(AT.k (CK.int .i64))])] [(OT.g 110 [(AT.k (CK.sl 1)), (AT.k (CK.int .i64))])] 0)])])) (lv := token_scanner_blanksO_lv) (own := (some 1)) (F := Tryz.f66) (by kernel_rfl) (by kernel_rfl) (by first | decide | simp) (fun _ _ h => h) (by kernel_rfl) H
def token_scanner_whileO_lv : List Nat → Keep := lvOf [([0, 0, 1, 1, 1], ⟨33, 0, [], false, false⟩)]
def token_scanner_whileO_S0 (p : Int) (o : LL) (o1 : Int) : St := (St.mk [(TV.one (AV.ptr 0 0 0 110)), TV.und, TV.und, TV.und, TV.und, (TV.one (AV.fz (FV.int .i64 p))), TV.und, TV.und, TV.und, TV.und, TV.und, TV.und, TV.und, TV.und, TV.und, TV.und, TV.und, TV.und, TV.und, TV.und, TV.und, TV.und, TV.und, TV.und, TV.und, TV.und, TV.und, TV.und, TV.und, TV.und, TV.und, TV.und, TV.und, TV.und, TV.und, TV.und, TV.und, TV.und, TV.und, TV.und, TV.und, TV.und, TV.und, TV.und, TV.und, TV.und, TV.und, TV.und, TV.und, TV.und, TV.und] [(Ob.g 110 [(AV.fz (FV.sl 1 o)), (AV.fz (FV.int .i64 o1))])])
def token_scanner_whileO_L0 (R : TV → List Ob → Prop) (p : Int) (o : LL) (o1 : Int) : Prop := LoopAt Tryz.prog (modeOf [] [(67, [(Sig.mk 1 [(false, [(AT.k CK.bool)])] [(OT.g 110 [(AT.k (CK.sl 1)), (AT.k (CK.int .i64))])] 0)]), (101, [(Sig.mk 1 [(false, [(AT.k (CK.int .i64))])] [(OT.g 110 [(AT.k (CK.sl 1)), (AT.k (CK.int .i64))])] 0)])]) token_scanner_whileO_lv Tryz.f134 (some 1) R [1, 1, 1, 0, 0] (token_scanner_whileO_S0 p o o1)
def token_scanner_whileO_R0 (R : TV → List Ob → Prop) (p : Int) (o : List (List FV)) (o1 : Int) : Prop :=
 (∃ es8 : LL, (∃ n15 : Int, (∃ b4 : Bool, ((Fn Tryz.prog 67 [(TV.one (AV.ptr 0 0 0 110)), (TV.one (AV.fz (FV.int .i64 1)))] [(Ob.g 110 [(AV.fz (FV.sl 1 o)), (AV.fz (FV.int .i64 o1))])] (TV.one (AV.fz (FV.bool b4))) [(Ob.g 110 [(AV.fz (FV.sl 1 es8)), (AV.fz (FV.int .i64 n15))])]) ∧ (((b4 = true) → (∃ es9 : LL, (∃ n16 : Int, (∃ n17 : Int, ((Fn Tryz.prog 101 [(TV.one (AV.ptr 0 0 0 110)), (TV.one (AV.fz (FV.int .i64 0)))] [(Ob.g 110 [(AV.fz (FV.sl 1 es8)), (AV.fz (FV.int .i64 n15))])] (TV.one (AV.fz (FV.int .i64 n17))) [(Ob.g 110 [(AV.fz (FV.sl 1 es9)), (AV.fz (FV.int .i64 n16))])]) ∧ (∃ b5 : Bool, ((Fn Tryz.prog 104 [(TV.one (AV.fz (FV.int .i64 n17)))] [] (TV.one (AV.fz (FV.bool b5))) []) ∧ ((((Bool.not b5) = true) → (token_scanner_whileO_L0 R p es9 (IntKind.wrap .i64 (n16 + 1)))) ∧ (((Bool.not b5) = false) → ((((0 : Int) ≤ p) ∧ ((p ≤ n16) ∧ (n16 ≤ (((List.length es9) : Nat) : Int)))) ∧ (∃ es10 : LL, (∃ n18 : Int, ((Fn Tryz.prog 157 [(TV.one (AV.fz (FV.sl 1 (List.drop (Int.toNat p) (List.take (Int.toNat n16) es9)))))] [] (TV.tup [(false, [(AV.fz (FV.sl 1 es10))]), (false, [(AV.fz (FV.int .i64 n18))])]) []) ∧ (∃ ns4 : List Int, ((es10 = (List.map (fun n19 => [(FV.int .u8 n19)]) ns4)) ∧ (R (TV.one (AV.fz (FV.str (bytesOf ns4)))) [(Ob.g 110 [(AV.fz (FV.sl 1 es9)), (AV.fz (FV.int .i64 n16))])])))))))))))))))) ∧ ((b4 = false) → ((((0 : Int) ≤ p) ∧ ((p ≤ n15) ∧ (n15 ≤ (((List.length es8) : Nat) : Int)))) ∧ (∃ es11 : LL, (∃ n20 : Int, ((Fn Tryz.prog 157 [(TV.one (AV.fz (FV.sl 1 (List.drop (Int.toNat p) (List.take (Int.toNat n15) es8)))))] [] (TV.tup [(false, [(AV.fz (FV.sl 1 es11))]), (false, [(AV.fz (FV.int .i64 n20))])]) []) ∧ (∃ ns5 : List Int, ((es11 = (List.map (fun n21 => [(FV.int .u8 n21)]) ns5)) ∧ (R (TV.one (AV.fz (FV.str (bytesOf ns5)))) [(Ob.g 110 [(AV.fz (FV.sl 1 es8)), (AV.fz (FV.int .i64 n15))])])))))))))))))
theorem token_scanner_whileO_l0 {R : TV → List Ob → Prop} {p : Int} {o : LL} {o1 : Int} (h : token_scanner_whileO_R0 R p o o1) : token_scanner_whileO_L0 R p o o1 :=
 LoopAt.by_tr (by kernel_rfl) (by kernel_rfl) h
def token_scanner_whileO_H (R : TV → List Ob → Prop) (from_ : Int) (tx : List (List FV)) (p : Int) : Prop :=
 (token_scanner_whileO_L0 R p tx (IntKind.wrap .i64 (p + from_)))
theorem token_scanner_whileO_fn (from_ : Int) (tx : LL) (p : Int) {r : TV} {h : List Ob} (H : token_scanner_whileO_H (fun r' h' => r' = r ∧ Wk h' h) from_ tx p) : Fn Tryz.prog 134 [(TV.one (AV.ptr 0 0 0 110)), (TV.one (AV.fz (FV.int .i64 from_)))] [(Ob.g 110 [(AV.fz (FV.sl 1 tx)), (AV.fz (FV.int .i64 p))])] r h :=
 Fn.by_trW (M := (modeOf [] [(67, [(Sig.mk 1 [(false, [(AT.k CK.bool)])] [(OT.g 110 [(AT.k (CK.sl 1)), (AT.k (CK.int .i64))])] 0)]), (101, [(Sig.mk 1 [(false, [(AT.k (CK.int .i64))])] [(OT.g 110 [(AT.k (CK.sl 1)), (AT.k (CK.int .i64))])] 0)])])) (lv := token_scanner_whileO_lv) (own := (some 1)) (F := Tryz.f134) (by kernel_rfl) (by kernel_rfl) (by first | decide | simp) (fun _ _ h => h) (by kernel_rfl) H
def token_scanner_hereO_lv : List Nat → Keep := lvOf [([0, 1, 0, 1], ⟨387, 0, [], false, false⟩)]
def token_scanner_hereO_S0 (w : ByteArray) (i : Int) (o : LL) (o1 : Int) : St := (St.mk [(TV.one (AV.ptr 0 0 0 110)), (TV.one (AV.fz (FV.str w))), TV.und, TV.und, TV.und, TV.und, TV.und, (TV.one (AV.fz (FV.int .i64 (((ByteArray.size w) : Nat) : Int)))), (TV.one (AV.fz (FV.int .i64 i))), TV.und, TV.und, TV.und, TV.und, TV.und, TV.und, TV.und, TV.und, TV.und, TV.und, TV.und] [(Ob.g 110 [(AV.fz (FV.sl 1 o)), (AV.fz (FV.int .i64 o1))])])
def token_scanner_hereO_L0 (R : TV → List Ob → Prop) (w : ByteArray) (i : Int) (o : LL) (o1 : Int) : Prop := LoopAt Tryz.prog (modeOf [] [(101, [(Sig.mk 1 [(false, [(AT.k (CK.int .i64))])] [(OT.g 110 [(AT.k (CK.sl 1)), (AT.k (CK.int .i64))])] 0)])]) token_scanner_hereO_lv Tryz.f103 (some 1) R [1, 0, 1, 0] (token_scanner_hereO_S0 w i o o1)
def token_scanner_hereO_R0 (R : TV → List Ob → Prop) (w : ByteArray) (i : Int) (o : List (List FV)) (o1 : Int) : Prop :=
 ((((decide (i < (((ByteArray.size w) : Nat) : Int))) = true) → (∃ es2 : LL, (∃ n4 : Int, (∃ n5 : Int, ((Fn Tryz.prog 101 [(TV.one (AV.ptr 0 0 0 110)), (TV.one (AV.fz (FV.int .i64 i)))] [(Ob.g 110 [(AV.fz (FV.sl 1 o)), (AV.fz (FV.int .i64 o1))])] (TV.one (AV.fz (FV.int .i64 n5))) [(Ob.g 110 [(AV.fz (FV.sl 1 es2)), (AV.fz (FV.int .i64 n4))])]) ∧ (((0 : Int) ≤ i) ∧ (∃ c2 : UInt8, ((((ByteArray.data w))[(Int.toNat i)]? = (some c2)) ∧ ((((n5 != (IntKind.wrap .i64 (((UInt8.toNat c2) : Nat) : Int))) = true) → (R (TV.one (AV.fz (FV.bool false))) [(Ob.g 110 [(AV.fz (FV.sl 1 es2)), (AV.fz (FV.int .i64 n4))])])) ∧ (((n5 != (IntKind.wrap .i64 (((UInt8.toNat c2) : Nat) : Int))) = false) → (token_scanner_hereO_L0 R w (IntKind.wrap .i64 (i + 1)) es2 n4))))))))))) ∧ (((decide (i < (((ByteArray.size w) : Nat) : Int))) = false) → (R (TV.one (AV.fz (FV.bool true))) [(Ob.g 110 [(AV.fz (FV.sl 1 o)), (AV.fz (FV.int .i64 o1))])])))
theorem token_scanner_hereO_l0 {R : TV → List Ob → Prop} {w : ByteArray} {i : Int} {o : LL} {o1 : Int} (h : token_scanner_hereO_R0 R w i o o1) : token_scanner_hereO_L0 R w i o o1 :=
 LoopAt.by_tr (by kernel_rfl) (by kernel_rfl) h
def token_scanner_hereO_H (R : TV → List Ob → Prop) (w : ByteArray) (tx : List (List FV)) (p : Int) : Prop :=
 (token_scanner_hereO_L0 R w 0 tx p)
theorem token_scanner_hereO_fn (w : ByteArray) (tx : LL) (p : Int) {r : TV} {h : List Ob} (H : token_scanner_hereO_H (fun r' h' => r' = r ∧ Wk h' h) w tx p) : Fn Tryz.prog 103 [(TV.one (AV.ptr 0 0 0 110)), (TV.one (AV.fz (FV.str w)))] [(Ob.g 110 [(AV.fz (FV.sl 1 tx)), (AV.fz (FV.int .i64 p))])] r h :=
 Fn.by_trW (M := (modeOf [] [(101, [(Sig.mk 1 [(false, [(AT.k (CK.int .i64))])] [(OT.g 110 [(AT.k (CK.sl 1)), (AT.k (CK.int .i64))])] 0)])])) (lv := token_scanner_hereO_lv) (own := (some 1)) (F := Tryz.f103) (by kernel_rfl) (by kernel_rfl) (by first | decide | simp) (fun _ _ h => h) (by kernel_rfl) H
def token_scanner_hexO_lv : List Nat → Keep := lvOf [([0, 0, 1, 1], ⟨9, 0, [], false, false⟩)]
def token_scanner_hexO_S0 (p : Int) (o : LL) (o1 : Int) : St := (St.mk [(TV.one (AV.ptr 0 0 0 110)), TV.und, TV.und, (TV.one (AV.fz (FV.int .i64 p))), TV.und, TV.und, TV.und, TV.und, TV.und, TV.und, TV.und, TV.und, TV.und, TV.und, TV.und, TV.und, TV.und, TV.und, TV.und, TV.und, TV.und, TV.und, TV.und, TV.und, TV.und, TV.und, TV.und, TV.und, TV.und, TV.und, TV.und, TV.und, TV.und, TV.und, TV.und, TV.und, TV.und, TV.und, TV.und, TV.und, TV.und, TV.und, TV.und, TV.und, TV.und, TV.und, TV.und, TV.und, TV.und, TV.und, TV.und, TV.und, TV.und, TV.und, TV.und, TV.und, TV.und, TV.und, TV.und, TV.und, TV.und, TV.und, TV.und, TV.und, TV.und, TV.und, TV.und, TV.und, TV.und, TV.und, TV.und, TV.und, TV.und, TV.und, TV.und, TV.und, TV.und] [(Ob.g 110 [(AV.fz (FV.sl 1 o)), (AV.fz (FV.int .i64 o1))])])
def token_scanner_hexO_L0 (R : TV → List Ob → Prop) (p : Int) (o : LL) (o1 : Int) : Prop := LoopAt Tryz.prog (modeOf [] [(67, [(Sig.mk 1 [(false, [(AT.k CK.bool)])] [(OT.g 110 [(AT.k (CK.sl 1)), (AT.k (CK.int .i64))])] 0)]), (101, [(Sig.mk 1 [(false, [(AT.k (CK.int .i64))])] [(OT.g 110 [(AT.k (CK.sl 1)), (AT.k (CK.int .i64))])] 0)])]) token_scanner_hexO_lv Tryz.f184 (some 1) R [1, 1, 0, 0] (token_scanner_hexO_S0 p o o1)
def token_scanner_hexO_R0 (R : TV → List Ob → Prop) (p : Int) (o : List (List FV)) (o1 : Int) : Prop :=
 (∃ es16 : LL, (∃ n37 : Int, (∃ b8 : Bool, ((Fn Tryz.prog 67 [(TV.one (AV.ptr 0 0 0 110)), (TV.one (AV.fz (FV.int .i64 1)))] [(Ob.g 110 [(AV.fz (FV.sl 1 o)), (AV.fz (FV.int .i64 o1))])] (TV.one (AV.fz (FV.bool b8))) [(Ob.g 110 [(AV.fz (FV.sl 1 es16)), (AV.fz (FV.int .i64 n37))])]) ∧ (((b8 = true) → (∃ es17 : LL, (∃ n38 : Int, (∃ n39 : Int, ((Fn Tryz.prog 101 [(TV.one (AV.ptr 0 0 0 110)), (TV.one (AV.fz (FV.int .i64 0)))] [(Ob.g 110 [(AV.fz (FV.sl 1 es16)), (AV.fz (FV.int .i64 n37))])] (TV.one (AV.fz (FV.int .i64 n39))) [(Ob.g 110 [(AV.fz (FV.sl 1 es17)), (AV.fz (FV.int .i64 n38))])]) ∧ ((((n39 != 59) = true) → ((((decide ((IntKind.wrap .i64 (n38 - p)) < 7)) = true) → (token_scanner_hexO_L0 R p es17 (IntKind.wrap .i64 (n38 + 1)))) ∧ (((decide ((IntKind.wrap .i64 (n38 - p)) < 7)) = false) → (∃ es18 : LL, (∃ n40 : Int, (∃ n41 : Int, ((Fn Tryz.prog 101 [(TV.one (AV.ptr 0 0 0 110)), (TV.one (AV.fz (FV.int .i64 0)))] [(Ob.g 110 [(AV.fz (FV.sl 1 es17)), (AV.fz (FV.int .i64 n38))])] (TV.one (AV.fz (FV.int .i64 n41))) [(Ob.g 110 [(AV.fz (FV.sl 1 es18)), (AV.fz (FV.int .i64 n40))])]) ∧ ((((n41 != 59) = true) → (R (TV.one (AV.fz (FV.int .i64 (-1)))) [(Ob.g 110 [(AV.fz (FV.sl 1 es18)), (AV.fz (FV.int .i64 n40))])])) ∧ (((n41 != 59) = false) → ((((n40 == p) = true) → (R (TV.one (AV.fz (FV.int .i64 (-1)))) [(Ob.g 110 [(AV.fz (FV.sl 1 es18)), (AV.fz (FV.int .i64 n40))])])) ∧ (((n40 == p) = false) → ((((0 : Int) ≤ p) ∧ ((p ≤ n40) ∧ (n40 ≤ (((List.length es18) : Nat) : Int)))) ∧ (∃ es19 : LL, (∃ n42 : Int, ((Fn Tryz.prog 157 [(TV.one (AV.fz (FV.sl 1 (List.drop (Int.toNat p) (List.take (Int.toNat n40) es18)))))] [] (TV.tup [(false, [(AV.fz (FV.sl 1 es19))]), (false, [(AV.fz (FV.int .i64 n42))])]) []) ∧ (∃ ns6 : List Int, ((es19 = (List.map (fun n43 => [(FV.int .u8 n43)]) ns6)) ∧ ((((ByteArray.size (ByteArray.mk #[120])) + (ByteArray.size (bytesOf ns6))) ≤ 9223372036854775807) ∧ (∃ n44 : Int, (∃ b9 : Bool, ((Fn Tryz.prog 159 [(TV.one (AV.fz (FV.str ((ByteArray.mk #[120]) ++ (bytesOf ns6)))))] [] (TV.tup [(false, [(AV.fz (FV.int .i64 n44))]), (false, [(AV.fz (FV.bool b9))])]) []) ∧ ((((Bool.not b9) = true) → (R (TV.one (AV.fz (FV.int .i64 (-1)))) [(Ob.g 110 [(AV.fz (FV.sl 1 es18)), (AV.fz (FV.int .i64 (IntKind.wrap .i64 (n40 + 1))))])])) ∧ (((Bool.not b9) = false) → (R (TV.one (AV.fz (FV.int .i64 n44))) [(Ob.g 110 [(AV.fz (FV.sl 1 es18)), (AV.fz (FV.int .i64 (IntKind.wrap .i64 (n40 + 1))))])])))))))))))))))))))))))) ∧ (((n39 != 59) = false) → (∃ es20 : LL, (∃ n45 : Int, (∃ n46 : Int, ((Fn Tryz.prog 101 [(TV.one (AV.ptr 0 0 0 110)), (TV.one (AV.fz (FV.int .i64 0)))] [(Ob.g 110 [(AV.fz (FV.sl 1 es17)), (AV.fz (FV.int .i64 n38))])] (TV.one (AV.fz (FV.int .i64 n46))) [(Ob.g 110 [(AV.fz (FV.sl 1 es20)), (AV.fz (FV.int .i64 n45))])]) ∧ ((((n46 != 59) = true) → (R (TV.one (AV.fz (FV.int .i64 (-1)))) [(Ob.g 110 [(AV.fz (FV.sl 1 es20)), (AV.fz (FV.int .i64 n45))])])) ∧ (((n46 != 59) = false) → ((((n45 == p) = true) → (R (TV.one (AV.fz (FV.int .i64 (-1)))) [(Ob.g 110 [(AV.fz (FV.sl 1 es20)), (AV.fz (FV.int .i64 n45))])])) ∧ (((n45 == p) = false) → ((((0 : Int) ≤ p) ∧ ((p ≤ n45) ∧ (n45 ≤ (((List.length es20) : Nat) : Int)))) ∧ (∃ es21 : LL, (∃ n47 : Int, ((Fn Tryz.prog 157 [(TV.one (AV.fz (FV.sl 1 (List.drop (Int.toNat p) (List.take (Int.toNat n45) es20)))))] [] (TV.tup [(false, [(AV.fz (FV.sl 1 es21))]), (false, [(AV.fz (FV.int .i64 n47))])]) []) ∧ (∃ ns7 : List Int, ((es21 = (List.map (fun n48 => [(FV.int .u8 n48)]) ns7)) ∧ ((((ByteArray.size (ByteArray.mk #[120])) + (ByteArray.size (bytesOf ns7))) ≤ 9223372036854775807) ∧ (∃ n49 : Int, (∃ b10 : Bool, ((Fn Tryz.prog 159 [(TV.one (AV.fz (FV.str ((ByteArray.mk #[120]) ++ (bytesOf ns7)))))] [] (TV.tup [(false, [(AV.fz (FV.int .i64 n49))]), (false, [(AV.fz (FV.bool b10))])]) []) ∧ ((((Bool.not b10) = true) → (R (TV.one (AV.fz (FV.int .i64 (-1)))) [(Ob.g 110 [(AV.fz (FV.sl 1 es20)), (AV.fz (FV.int .i64 (IntKind.wrap .i64 (n45 + 1))))])])) ∧ (((Bool.not b10) = false) → (R (TV.one (AV.fz (FV.int .i64 n49))) [(Ob.g 110 [(AV.fz (FV.sl 1 es20)), (AV.fz (FV.int .i64 (IntKind.wrap .i64 (n45 + 1))))])])))))))))))))))))))))))))))) ∧ ((b8 = false) → (∃ es22 : LL, (∃ n50 : Int, (∃ n51 : Int, ((Fn Tryz.prog 101 [(TV.one (AV.ptr 0 0 0 110)), (TV.one (AV.fz (FV.int .i64 0)))] [(Ob.g 110 [(AV.fz (FV.sl 1 es16)), (AV.fz (FV.int .i64 n37))])] (TV.one (AV.fz (FV.int .i64 n51))) [(Ob.g 110 [(AV.fz (FV.sl 1 es22)), (AV.fz (FV.int .i64 n50))])]) ∧ ((((n51 != 59) = true) → (R (TV.one (AV.fz (FV.int .i64 (-1)))) [(Ob.g 110 [(AV.fz (FV.sl 1 es22)), (AV.fz (FV.int .i64 n50))])])) ∧ (((n51 != 59) = false) → ((((n50 == p) = true) → (R (TV.one (AV.fz (FV.int .i64 (-1)))) [(Ob.g 110 [(AV.fz (FV.sl 1 es22)), (AV.fz (FV.int .i64 n50))])])) ∧ (((n50 == p) = false) → ((((0 : Int) ≤ p) ∧ ((p ≤ n50) ∧ (n50 ≤ (((List.length es22) : Nat) : Int)))) ∧ (∃ es23 : LL, (∃ n52 : Int, ((Fn Tryz.prog 157 [(TV.one (AV.fz (FV.sl 1 (List.drop (Int.toNat p) (List.take (Int.toNat n50) es22)))))] [] (TV.tup [(false, [(AV.fz (FV.sl 1 es23))]), (false, [(AV.fz (FV.int .i64 n52))])]) []) ∧ (∃ ns8 : List Int, ((es23 = (List.map (fun n53 => [(FV.int .u8 n53)]) ns8)) ∧ ((((ByteArray.size (ByteArray.mk #[120])) + (ByteArray.size (bytesOf ns8))) ≤ 9223372036854775807) ∧ (∃ n54 : Int, (∃ b11 : Bool, ((Fn Tryz.prog 159 [(TV.one (AV.fz (FV.str ((ByteArray.mk #[120]) ++ (bytesOf ns8)))))] [] (TV.tup [(false, [(AV.fz (FV.int .i64 n54))]), (false, [(AV.fz (FV.bool b11))])]) []) ∧ ((((Bool.not b11) = true) → (R (TV.one (AV.fz (FV.int .i64 (-1)))) [(Ob.g 110 [(AV.fz (FV.sl 1 es22)), (AV.fz (FV.int .i64 (IntKind.wrap .i64 (n50 + 1))))])])) ∧ (((Bool.not b11) = false) → (R (TV.one (AV.fz (FV.int .i64 n54))) [(Ob.g 110 [(AV.fz (FV.sl 1 es22)), (AV.fz (FV.int .i64 (IntKind.wrap .i64 (n50 + 1))))])])))))))))))))))))))))))))))
theorem token_scanner_hexO_l0 {R : TV → List Ob → Prop} {p : Int} {o : LL} {o1 : Int} (h : token_scanner_hexO_R0 R p o o1) : token_scanner_hexO_L0 R p o o1 :=
 LoopAt.by_tr (by kernel_rfl) (by kernel_rfl) h
def token_scanner_hexO_H (R : TV → List Ob → Prop) (tx : List (List FV)) (p : Int) : Prop :=
 (token_scanner_hexO_L0 R p tx p)
theorem token_scanner_hexO_fn (tx : LL) (p : Int) {r : TV} {h : List Ob} (H : token_scanner_hexO_H (fun r' h' => r' = r ∧ Wk h' h) tx p) : Fn Tryz.prog 184 [(TV.one (AV.ptr 0 0 0 110))] [(Ob.g 110 [(AV.fz (FV.sl 1 tx)), (AV.fz (FV.int .i64 p))])] r h :=
 Fn.by_trW (M := (modeOf [] [(67, [(Sig.mk 1 [(false, [(AT.k CK.bool)])] [(OT.g 110 [(AT.k (CK.sl 1)), (AT.k (CK.int .i64))])] 0)]), (101, [(Sig.mk 1 [(false, [(AT.k (CK.int .i64))])] [(OT.g 110 [(AT.k (CK.sl 1)), (AT.k (CK.int .i64))])] 0)])])) (lv := token_scanner_hexO_lv) (own := (some 1)) (F := Tryz.f184) (by kernel_rfl) (by kernel_rfl) (by first | decide | simp) (fun _ _ h => h) (by kernel_rfl) H
def token_scanner_escapeO_lv : List Nat → Keep := lvOf []
def token_scanner_escapeO_H (R : TV → List Ob → Prop) (tx : List (List FV)) (p : Int) : Prop :=
 (∃ es2 : LL, (∃ n4 : Int, (∃ n5 : Int, ((Fn Tryz.prog 101 [(TV.one (AV.ptr 0 0 0 110)), (TV.one (AV.fz (FV.int .i64 0)))] [(Ob.g 110 [(AV.fz (FV.sl 1 tx)), (AV.fz (FV.int .i64 p))])] (TV.one (AV.fz (FV.int .i64 n5))) [(Ob.g 110 [(AV.fz (FV.sl 1 es2)), (AV.fz (FV.int .i64 n4))])]) ∧ ((((n5 == 110) = true) → (R (TV.one (AV.fz (FV.int .i64 10))) [(Ob.g 110 [(AV.fz (FV.sl 1 es2)), (AV.fz (FV.int .i64 (IntKind.wrap .i64 (n4 + 1))))])])) ∧ (((n5 == 110) = false) → ((((n5 == 114) = true) → (R (TV.one (AV.fz (FV.int .i64 13))) [(Ob.g 110 [(AV.fz (FV.sl 1 es2)), (AV.fz (FV.int .i64 (IntKind.wrap .i64 (n4 + 1))))])])) ∧ (((n5 == 114) = false) → ((((n5 == 116) = true) → (R (TV.one (AV.fz (FV.int .i64 9))) [(Ob.g 110 [(AV.fz (FV.sl 1 es2)), (AV.fz (FV.int .i64 (IntKind.wrap .i64 (n4 + 1))))])])) ∧ (((n5 == 116) = false) → ((((n5 == 92) = true) → (R (TV.one (AV.fz (FV.int .i64 n5))) [(Ob.g 110 [(AV.fz (FV.sl 1 es2)), (AV.fz (FV.int .i64 (IntKind.wrap .i64 (n4 + 1))))])])) ∧ (((n5 == 92) = false) → ((((n5 == 34) = true) → (R (TV.one (AV.fz (FV.int .i64 n5))) [(Ob.g 110 [(AV.fz (FV.sl 1 es2)), (AV.fz (FV.int .i64 (IntKind.wrap .i64 (n4 + 1))))])])) ∧ (((n5 == 34) = false) → ((((n5 == 120) = true) → (∃ es3 : LL, (∃ n6 : Int, (∃ n7 : Int, ((Fn Tryz.prog 184 [(TV.one (AV.ptr 0 0 0 110))] [(Ob.g 110 [(AV.fz (FV.sl 1 es2)), (AV.fz (FV.int .i64 (IntKind.wrap .i64 (n4 + 1))))])] (TV.one (AV.fz (FV.int .i64 n7))) [(Ob.g 110 [(AV.fz (FV.sl 1 es3)), (AV.fz (FV.int .i64 n6))])]) ∧ (R (TV.one (AV.fz (FV.int .i64 n7))) [(Ob.g 110 [(AV.fz (FV.sl 1 es3)), (AV.fz (FV.int .i64 n6))])])))))) ∧ (((n5 == 120) = false) → (R (TV.one (AV.fz (FV.int .i64 (-1)))) [(Ob.g 110 [(AV.fz (FV.sl 1 es2)), (AV.fz (FV.int .i64 (IntKind.wrap .i64 (n4 + 1))))])])))))))))))))))))
theorem token_scanner_escapeO_fn (tx : LL) (p : Int) {r : TV} {h : List Ob} (H : token_scanner_escapeO_H (fun r' h' => r' = r ∧ Wk h' h) tx p) : Fn Tryz.prog 158 [(TV.one (AV.ptr 0 0 0 110))] [(Ob.g 110 [(AV.fz (FV.sl 1 tx)), (AV.fz (FV.int .i64 p))])] r h :=
 Fn.by_trW (M := (modeOf [] [(101, [(Sig.mk 1 [(false, [(AT.k (CK.int .i64))])] [(OT.g 110 [(AT.k (CK.sl 1)), (AT.k (CK.int .i64))])] 0)]), (184, [(Sig.mk 1 [(false, [(AT.k (CK.int .i64))])] [(OT.g 110 [(AT.k (CK.sl 1)), (AT.k (CK.int .i64))])] 0)])])) (lv := token_scanner_escapeO_lv) (own := (some 1)) (F := Tryz.f158) (by kernel_rfl) (by kernel_rfl) (by first | decide | simp) (fun _ _ h => h) (by kernel_rfl) H
def token_scanner_strO_lv : List Nat → Keep := lvOf [([0, 0, 1, 1], ⟨17, 0, [], false, false⟩)]
def token_scanner_strO_S0 (o : LL) (o1 : Int) (o2 : LL) : St := (St.mk [(TV.one (AV.ptr 0 0 0 110)), TV.und, TV.und, TV.und, (TV.one (AV.ofl 1 1)), TV.und, TV.und, TV.und, TV.und, TV.und, TV.und, TV.und, TV.und, TV.und, TV.und, TV.und, TV.und, TV.und, TV.und, TV.und, TV.und, TV.und, TV.und, TV.und, TV.und, TV.und, TV.und, TV.und, TV.und, TV.und, TV.und, TV.und, TV.und, TV.und, TV.und, TV.und, TV.und, TV.und, TV.und, TV.und, TV.und, TV.und] [(Ob.g 110 [(AV.fz (FV.sl 1 o)), (AV.fz (FV.int .i64 o1))]), (Ob.f 0 1 o2)])
def token_scanner_strO_L0 (R : TV → List Ob → Prop) (o : LL) (o1 : Int) (o2 : LL) : Prop := LoopAt Tryz.prog (modeOf [] [(67, [(Sig.mk 1 [(false, [(AT.k CK.bool)])] [(OT.g 110 [(AT.k (CK.sl 1)), (AT.k (CK.int .i64))])] 0)]), (101, [(Sig.mk 1 [(false, [(AT.k (CK.int .i64))])] [(OT.g 110 [(AT.k (CK.sl 1)), (AT.k (CK.int .i64))])] 0)]), (158, [(Sig.mk 1 [(false, [(AT.k (CK.int .i64))])] [(OT.g 110 [(AT.k (CK.sl 1)), (AT.k (CK.int .i64))])] 0)])]) token_scanner_strO_lv Tryz.f132 (some 1) R [1, 1, 0, 0] (token_scanner_strO_S0 o o1 o2)
def token_scanner_strO_R0 (R : TV → List Ob → Prop) (o : List (List FV)) (o1 : Int) (o2 : List (List FV)) : Prop :=
 (∃ es8 : LL, (∃ n15 : Int, (∃ b2 : Bool, ((Fn Tryz.prog 67 [(TV.one (AV.ptr 0 0 0 110)), (TV.one (AV.fz (FV.int .i64 1)))] [(Ob.g 110 [(AV.fz (FV.sl 1 o)), (AV.fz (FV.int .i64 o1))])] (TV.one (AV.fz (FV.bool b2))) [(Ob.g 110 [(AV.fz (FV.sl 1 es8)), (AV.fz (FV.int .i64 n15))])]) ∧ (((b2 = true) → (∃ es9 : LL, (∃ n16 : Int, (∃ n17 : Int, ((Fn Tryz.prog 101 [(TV.one (AV.ptr 0 0 0 110)), (TV.one (AV.fz (FV.int .i64 0)))] [(Ob.g 110 [(AV.fz (FV.sl 1 es8)), (AV.fz (FV.int .i64 n15))])] (TV.one (AV.fz (FV.int .i64 n17))) [(Ob.g 110 [(AV.fz (FV.sl 1 es9)), (AV.fz (FV.int .i64 n16))])]) ∧ ((((n17 == 34) = true) → (∃ es10 : LL, (∃ n18 : Int, ((Fn Tryz.prog 157 [(TV.one (AV.fz (FV.sl 1 o2)))] [] (TV.tup [(false, [(AV.fz (FV.sl 1 es10))]), (false, [(AV.fz (FV.int .i64 n18))])]) []) ∧ (∃ ns2 : List Int, ((es10 = (List.map (fun n19 => [(FV.int .u8 n19)]) ns2)) ∧ (R (TV.tup [(false, [(AV.fz (FV.str (bytesOf ns2)))]), (false, [(AV.fz (FV.bool (decide ((((List.length o2) : Nat) : Int) ≤ 4096))))])]) [(Ob.g 110 [(AV.fz (FV.sl 1 es9)), (AV.fz (FV.int .i64 (IntKind.wrap .i64 (n16 + 1))))])]))))))) ∧ (((n17 == 34) = false) → ((((n17 == 92) = true) → (∃ es11 : LL, (∃ n20 : Int, (∃ n21 : Int, ((Fn Tryz.prog 158 [(TV.one (AV.ptr 0 0 0 110))] [(Ob.g 110 [(AV.fz (FV.sl 1 es9)), (AV.fz (FV.int .i64 (IntKind.wrap .i64 (n16 + 1))))])] (TV.one (AV.fz (FV.int .i64 n21))) [(Ob.g 110 [(AV.fz (FV.sl 1 es11)), (AV.fz (FV.int .i64 n20))])]) ∧ ((((decide (n21 < 0)) = true) → (R (TV.tup [(false, [(AV.fz (FV.str (ByteArray.mk #[])))]), (false, [(AV.fz (FV.bool false))])]) [(Ob.g 110 [(AV.fz (FV.sl 1 es11)), (AV.fz (FV.int .i64 n20))])])) ∧ (((decide (n21 < 0)) = false) → (((((List.length o2) + (List.length [[(FV.int .i64 n21)]])) * 8) ≤ 220000000000000) ∧ (token_scanner_strO_L0 R es11 n20 (o2 ++ [[(FV.int .i64 n21)]])))))))))) ∧ (((n17 == 92) = false) → (((((List.length o2) + (List.length [[(FV.int .i64 n17)]])) * 8) ≤ 220000000000000) ∧ (token_scanner_strO_L0 R es9 (IntKind.wrap .i64 (n16 + 1)) (o2 ++ [[(FV.int .i64 n17)]])))))))))))) ∧ ((b2 = false) → (R (TV.tup [(false, [(AV.fz (FV.str (ByteArray.mk #[])))]), (false, [(AV.fz (FV.bool false))])]) [(Ob.g 110 [(AV.fz (FV.sl 1 es8)), (AV.fz (FV.int .i64 n15))])])))))))
theorem token_scanner_strO_l0 {R : TV → List Ob → Prop} {o : LL} {o1 : Int} {o2 : LL} (h : token_scanner_strO_R0 R o o1 o2) : token_scanner_strO_L0 R o o1 o2 :=
 LoopAt.by_tr (by kernel_rfl) (by kernel_rfl) h
def token_scanner_strO_H (R : TV → List Ob → Prop) (tx : List (List FV)) (p : Int) : Prop :=
 (token_scanner_strO_L0 R tx p ([] : List (List FV)))
theorem token_scanner_strO_fn (tx : LL) (p : Int) {r : TV} {h : List Ob} (H : token_scanner_strO_H (fun r' h' => r' = r ∧ Wk h' h) tx p) : Fn Tryz.prog 132 [(TV.one (AV.ptr 0 0 0 110))] [(Ob.g 110 [(AV.fz (FV.sl 1 tx)), (AV.fz (FV.int .i64 p))])] r h :=
 Fn.by_trW (M := (modeOf [] [(67, [(Sig.mk 1 [(false, [(AT.k CK.bool)])] [(OT.g 110 [(AT.k (CK.sl 1)), (AT.k (CK.int .i64))])] 0)]), (101, [(Sig.mk 1 [(false, [(AT.k (CK.int .i64))])] [(OT.g 110 [(AT.k (CK.sl 1)), (AT.k (CK.int .i64))])] 0)]), (158, [(Sig.mk 1 [(false, [(AT.k (CK.int .i64))])] [(OT.g 110 [(AT.k (CK.sl 1)), (AT.k (CK.int .i64))])] 0)])])) (lv := token_scanner_strO_lv) (own := (some 1)) (F := Tryz.f132) (by kernel_rfl) (by kernel_rfl) (by first | decide | simp) (fun _ _ h => h) (by kernel_rfl) H
def token_scanner_charO_lv : List Nat → Keep := lvOf []
def token_scanner_charO_H (R : TV → List Ob → Prop) (tx : List (List FV)) (p : Int) : Prop :=
 (∃ es3 : LL, (∃ n6 : Int, (∃ b2 : Bool, ((Fn Tryz.prog 67 [(TV.one (AV.ptr 0 0 0 110)), (TV.one (AV.fz (FV.int .i64 1)))] [(Ob.g 110 [(AV.fz (FV.sl 1 tx)), (AV.fz (FV.int .i64 p))])] (TV.one (AV.fz (FV.bool b2))) [(Ob.g 110 [(AV.fz (FV.sl 1 es3)), (AV.fz (FV.int .i64 n6))])]) ∧ ((((Bool.not b2) = true) → (R (TV.tup [(false, [(AV.fz (FV.str (ByteArray.mk #[])))]), (false, [(AV.fz (FV.bool false))])]) [(Ob.g 110 [(AV.fz (FV.sl 1 es3)), (AV.fz (FV.int .i64 n6))])])) ∧ (((Bool.not b2) = false) → (∃ es4 : LL, (∃ n7 : Int, (∃ s1 : ByteArray, ((Fn Tryz.prog 134 [(TV.one (AV.ptr 0 0 0 110)), (TV.one (AV.fz (FV.int .i64 1)))] [(Ob.g 110 [(AV.fz (FV.sl 1 es3)), (AV.fz (FV.int .i64 n6))])] (TV.one (AV.fz (FV.str s1))) [(Ob.g 110 [(AV.fz (FV.sl 1 es4)), (AV.fz (FV.int .i64 n7))])]) ∧ (∃ n8 : Int, (∃ b3 : Bool, ((Fn Tryz.prog 159 [(TV.one (AV.fz (FV.str s1)))] [] (TV.tup [(false, [(AV.fz (FV.int .i64 n8))]), (false, [(AV.fz (FV.bool b3))])]) []) ∧ (∃ es5 : LL, (∃ n9 : Int, ((Fn Tryz.prog 157 [(TV.one (AV.fz (FV.sl 1 [[(FV.int .i64 n8)]])))] [] (TV.tup [(false, [(AV.fz (FV.sl 1 es5))]), (false, [(AV.fz (FV.int .i64 n9))])]) []) ∧ (∃ ns1 : List Int, ((es5 = (List.map (fun n10 => [(FV.int .u8 n10)]) ns1)) ∧ (R (TV.tup [(false, [(AV.fz (FV.str (bytesOf ns1)))]), (false, [(AV.fz (FV.bool b3))])]) [(Ob.g 110 [(AV.fz (FV.sl 1 es4)), (AV.fz (FV.int .i64 n7))])])))))))))))))))))))
theorem token_scanner_charO_fn (tx : LL) (p : Int) {r : TV} {h : List Ob} (H : token_scanner_charO_H (fun r' h' => r' = r ∧ Wk h' h) tx p) : Fn Tryz.prog 133 [(TV.one (AV.ptr 0 0 0 110))] [(Ob.g 110 [(AV.fz (FV.sl 1 tx)), (AV.fz (FV.int .i64 p))])] r h :=
 Fn.by_trW (M := (modeOf [] [(67, [(Sig.mk 1 [(false, [(AT.k CK.bool)])] [(OT.g 110 [(AT.k (CK.sl 1)), (AT.k (CK.int .i64))])] 0)]), (134, [(Sig.mk 1 [(false, [(AT.k CK.str)])] [(OT.g 110 [(AT.k (CK.sl 1)), (AT.k (CK.int .i64))])] 0)])])) (lv := token_scanner_charO_lv) (own := (some 1)) (F := Tryz.f133) (by kernel_rfl) (by kernel_rfl) (by first | decide | simp) (fun _ _ h => h) (by kernel_rfl) H
def token_scanner_datumO_lv : List Nat → Keep := lvOf []
def token_scanner_datumO_H (R : TV → List Ob → Prop) (tx : List (List FV)) (p : Int) : Prop :=
 (∃ es7 : LL, (∃ n7 : Int, (∃ b6 : Bool, ((Fn Tryz.prog 103 [(TV.one (AV.ptr 0 0 0 110)), (TV.one (AV.fz (FV.str (ByteArray.mk #[34]))))] [(Ob.g 110 [(AV.fz (FV.sl 1 tx)), (AV.fz (FV.int .i64 p))])] (TV.one (AV.fz (FV.bool b6))) [(Ob.g 110 [(AV.fz (FV.sl 1 es7)), (AV.fz (FV.int .i64 n7))])]) ∧ (((b6 = true) → (∃ es8 : LL, (∃ n8 : Int, (∃ s4 : ByteArray, (∃ b7 : Bool, ((Fn Tryz.prog 132 [(TV.one (AV.ptr 0 0 0 110))] [(Ob.g 110 [(AV.fz (FV.sl 1 es7)), (AV.fz (FV.int .i64 (IntKind.wrap .i64 (n7 + 1))))])] (TV.tup [(false, [(AV.fz (FV.str s4))]), (false, [(AV.fz (FV.bool b7))])]) [(Ob.g 110 [(AV.fz (FV.sl 1 es8)), (AV.fz (FV.int .i64 n8))])]) ∧ (R (TV.tup [(true, [(AV.fz (FV.int .i64 5)), (AV.fz (FV.str s4)), (AV.fz (FV.bool false)), (AV.ofl 1 1), (AV.ofl 6 2), (AV.fz (FV.int .i64 0))]), (false, [(AV.fz (FV.bool b7))])]) [(Ob.g 110 [(AV.fz (FV.sl 1 es8)), (AV.fz (FV.int .i64 n8))]), (Ob.f 0 1 ([] : LL)), (Ob.f 0 6 ([] : LL))]))))))) ∧ ((b6 = false) → (∃ es9 : LL, (∃ n9 : Int, (∃ b8 : Bool, ((Fn Tryz.prog 103 [(TV.one (AV.ptr 0 0 0 110)), (TV.one (AV.fz (FV.str (ByteArray.mk #[35, 92]))))] [(Ob.g 110 [(AV.fz (FV.sl 1 es7)), (AV.fz (FV.int .i64 n7))])] (TV.one (AV.fz (FV.bool b8))) [(Ob.g 110 [(AV.fz (FV.sl 1 es9)), (AV.fz (FV.int .i64 n9))])]) ∧ (((b8 = true) → (∃ es10 : LL, (∃ n10 : Int, (∃ s5 : ByteArray, (∃ b9 : Bool, ((Fn Tryz.prog 133 [(TV.one (AV.ptr 0 0 0 110))] [(Ob.g 110 [(AV.fz (FV.sl 1 es9)), (AV.fz (FV.int .i64 (IntKind.wrap .i64 (n9 + 2))))])] (TV.tup [(false, [(AV.fz (FV.str s5))]), (false, [(AV.fz (FV.bool b9))])]) [(Ob.g 110 [(AV.fz (FV.sl 1 es10)), (AV.fz (FV.int .i64 n10))])]) ∧ (R (TV.tup [(true, [(AV.fz (FV.int .i64 6)), (AV.fz (FV.str s5)), (AV.fz (FV.bool false)), (AV.ofl 1 1), (AV.ofl 6 2), (AV.fz (FV.int .i64 0))]), (false, [(AV.fz (FV.bool b9))])]) [(Ob.g 110 [(AV.fz (FV.sl 1 es10)), (AV.fz (FV.int .i64 n10))]), (Ob.f 0 1 ([] : LL)), (Ob.f 0 6 ([] : LL))]))))))) ∧ ((b8 = false) → (∃ es11 : LL, (∃ n11 : Int, (∃ s6 : ByteArray, ((Fn Tryz.prog 134 [(TV.one (AV.ptr 0 0 0 110)), (TV.one (AV.fz (FV.int .i64 0)))] [(Ob.g 110 [(AV.fz (FV.sl 1 es9)), (AV.fz (FV.int .i64 n9))])] (TV.one (AV.fz (FV.str s6))) [(Ob.g 110 [(AV.fz (FV.sl 1 es11)), (AV.fz (FV.int .i64 n11))])]) ∧ (∃ n12 : Int, (∃ s7 : ByteArray, (∃ b10 : Bool, (∃ es12 : LL, (∃ es13 : LL, (∃ n13 : Int, (∃ b11 : Bool, ((Fn Tryz.prog 110 [(TV.one (AV.fz (FV.str s6)))] [] (TV.tup [(true, [(AV.fz (FV.int .i64 n12)), (AV.fz (FV.str s7)), (AV.fz (FV.bool b10)), (AV.fz (FV.sl 1 es12)), (AV.fz (FV.sl 6 es13)), (AV.fz (FV.int .i64 n13))]), (false, [(AV.fz (FV.bool b11))])]) []) ∧ (R (TV.tup [(true, [(AV.fz (FV.int .i64 n12)), (AV.fz (FV.str s7)), (AV.fz (FV.bool b10)), (AV.fz (FV.sl 1 es12)), (AV.fz (FV.sl 6 es13)), (AV.fz (FV.int .i64 n13))]), (false, [(AV.fz (FV.bool b11))])]) [(Ob.g 110 [(AV.fz (FV.sl 1 es11)), (AV.fz (FV.int .i64 n11))])])))))))))))))))))))))))))
theorem token_scanner_datumO_fc (tx : LL) (p : Int) {r : TV} {h : List Ob} (H : token_scanner_datumO_H (fun r' h' => Cool 1 r' h' r h) tx p) : Fn Tryz.prog 105 [(TV.one (AV.ptr 0 0 0 110))] [(Ob.g 110 [(AV.fz (FV.sl 1 tx)), (AV.fz (FV.int .i64 p))])] r h :=
 Fn.by_trC (M := (modeOf [] [(103, [(Sig.mk 1 [(false, [(AT.k CK.bool)])] [(OT.g 110 [(AT.k (CK.sl 1)), (AT.k (CK.int .i64))])] 0)]), (134, [(Sig.mk 1 [(false, [(AT.k CK.str)])] [(OT.g 110 [(AT.k (CK.sl 1)), (AT.k (CK.int .i64))])] 0)]), (132, [(Sig.mk 1 [(false, [(AT.k CK.str)]), (false, [(AT.k CK.bool)])] [(OT.g 110 [(AT.k (CK.sl 1)), (AT.k (CK.int .i64))])] 0)]), (133, [(Sig.mk 1 [(false, [(AT.k CK.str)]), (false, [(AT.k CK.bool)])] [(OT.g 110 [(AT.k (CK.sl 1)), (AT.k (CK.int .i64))])] 0)])])) (lv := token_scanner_datumO_lv) (own := (some 1)) (F := Tryz.f105) (by kernel_rfl) (by kernel_rfl) (by first | decide | simp) (fun _ _ h => h) (by kernel_rfl) H
def token_Scan_1_lv : List Nat → Keep := lvOf []
def token_Scan_1_H (R : TV → List Ob → Prop) (c : Int) : Prop :=
 (∃ b1 : Bool, ((Fn Tryz.prog 64 [(TV.one (AV.fz (FV.int .i64 c)))] [] (TV.one (AV.fz (FV.bool b1))) []) ∧ (R (TV.one (AV.fz (FV.bool (Bool.not b1)))) [])))
theorem token_Scan_1_fn (c : Int) {r : TV} {h : List Ob} (H : token_Scan_1_H (fun r' h' => r' = r ∧ h' = h) c) : Fn Tryz.prog 63 [(TV.one (AV.fz (FV.int .i64 c)))] [] r h :=
 Fn.by_tr (M := (modeOf [] [])) (lv := token_Scan_1_lv) (own := none) (F := Tryz.f63) (by kernel_rfl) (by kernel_rfl) (by first | decide | simp) (fun _ _ h => h) (by kernel_rfl) H
end Go.Proofs.YtenkkekooimpjaaGreatDoor.Ev
end
