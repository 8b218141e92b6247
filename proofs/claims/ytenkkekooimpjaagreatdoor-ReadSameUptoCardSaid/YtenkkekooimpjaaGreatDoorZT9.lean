/-
 Part of a claim: definitions and lemmas that its theorem leans on, packed by wip/tools/pack.py.
-/
import Derived.Test.YtenkkekooimpjaaGreatDoorZT8
import Derived.Lib.SlTrimSet
set_option linter.unusedVariables false
set_option linter.unusedSimpArgs false
section
set_option linter.unusedVariables false
set_option maxRecDepth 100000
namespace Go.Proofs.YtenkkekooimpjaaGreatDoor.Ev
open Go
section
def num_Parse_lv : List Nat → Keep := lvOf [([0, 1, 0, 1, 1, 1, 1, 1, 1, 1, 1], ⟨244, 0, [], false, false⟩)]
def num_Parse_S0 (s4 : ByteArray) (minus : Bool) (end_ : Int) (o : LL) : St := (St.mk [TV.und, TV.und, (TV.one (AV.ptr 0 0 0 0)), TV.und, (TV.one (AV.fz (FV.str s4))), (TV.one (AV.fz (FV.bool minus))), (TV.one (AV.ofl 1 1)), (TV.one (AV.fz (FV.int .i64 end_))), TV.und, TV.und, TV.und, TV.und, TV.und, TV.und, TV.und, TV.und, TV.und, TV.und, TV.und, TV.und, TV.und, TV.und, TV.und, TV.und, TV.und, TV.und, TV.und, TV.und, TV.und, TV.und, TV.und, TV.und, TV.und, TV.und, TV.und, TV.und, TV.und, TV.und, TV.und, TV.und, TV.und, TV.und, TV.und, TV.und, TV.und, TV.und, TV.und, TV.und, TV.und, TV.und, TV.und, TV.und, TV.und, TV.und, TV.und, TV.und, TV.und, TV.und, TV.und, TV.und, TV.und, TV.und, TV.und, TV.und, TV.und] [(Ob.g 31 [(AV.fz (FV.bool false)), (AV.ofl 1 2)]), (Ob.f 0 1 o), (Ob.f 0 1 ([] : LL))])
def num_Parse_L0 (R : TV → List Ob → Prop) (s4 : ByteArray) (minus : Bool) (end_ : Int) (o : LL) : Prop := LoopAt Tryz.prog (modeOf [] []) num_Parse_lv Tryz.f137 none R [1, 1, 1, 1, 1, 1, 1, 1, 0, 1, 0] (num_Parse_S0 s4 minus end_ o)
def num_Parse_R0 (R : TV → List Ob → Prop) (s4 : ByteArray) (minus : Bool) (end_ : Int) (o : List (List FV)) : Prop :=
 ((((decide ((0 : Int) < end_)) = true) → ((((0 : Int) ≤ (if ((0 : Int) > (IntKind.wrap .i64 (end_ - 9))) then 0 else (IntKind.wrap .i64 (end_ - 9)))) ∧ (((if ((0 : Int) > (IntKind.wrap .i64 (end_ - 9))) then 0 else (IntKind.wrap .i64 (end_ - 9))) ≤ end_) ∧ (end_ ≤ (((ByteArray.size s4) : Nat) : Int)))) ∧ (∃ n6 : Int, (∃ b6 : Bool, ((Fn Tryz.prog 163 [(TV.one (AV.fz (FV.str (ByteArray.extract s4 (Int.toNat (if ((0 : Int) > (IntKind.wrap .i64 (end_ - 9))) then 0 else (IntKind.wrap .i64 (end_ - 9)))) (Int.toNat end_)))))] [] (TV.tup [(false, [(AV.fz (FV.int .i64 n6))]), (false, [(AV.fz (FV.ifc b6))])]) []) ∧ (((((List.length o) + (List.length [[(FV.int .u32 (IntKind.wrap .u32 n6))]])) * 4) ≤ 220000000000000) ∧ (num_Parse_L0 R s4 minus (IntKind.wrap .i64 (end_ - 9)) (o ++ [[(FV.int .u32 (IntKind.wrap .u32 n6))]])))))))) ∧ (((decide ((0 : Int) < end_)) = false) → (∃ b7 : Bool, (∃ es3 : LL, (∃ n7 : Int, ((Fn Tryz.prog 164 [(TV.one (AV.fz (FV.bool minus))), (TV.one (AV.fz (FV.sl 1 o)))] [] (TV.tup [(true, [(AV.fz (FV.bool b7)), (AV.fz (FV.sl 1 es3))]), (false, [(AV.fz (FV.int .i64 n7))])]) []) ∧ (R (TV.tup [(true, [(AV.fz (FV.bool b7)), (AV.fz (FV.sl 1 es3))]), (false, [(AV.fz (FV.bool (n7 == 0)))])]) [])))))))
theorem num_Parse_l0 {R : TV → List Ob → Prop} {s4 : ByteArray} {minus : Bool} {end_ : Int} {o : LL} (h : num_Parse_R0 R s4 minus end_ o) : num_Parse_L0 R s4 minus end_ o :=
 LoopAt.by_tr (by kernel_rfl) (by kernel_rfl) h
def num_Parse_H (R : TV → List Ob → Prop) (s : ByteArray) : Prop :=
 (∃ s7 : ByteArray, ((Fn Tryz.prog 160 [(TV.one (AV.fz (FV.str s))), (TV.one (AV.fz (FV.str (ByteArray.mk #[45]))))] [] (TV.one (AV.fz (FV.str s7))) []) ∧ ((((Bool.not (Bool.not ((ByteArray.toList s7) == (ByteArray.toList s)))) = true) → (∃ s8 : ByteArray, ((Fn Tryz.prog 160 [(TV.one (AV.fz (FV.str s))), (TV.one (AV.fz (FV.str (ByteArray.mk #[43]))))] [] (TV.one (AV.fz (FV.str s8))) []) ∧ (((((ByteArray.toList s8) == (ByteArray.toList (ByteArray.mk #[]))) = true) → (R (TV.tup [(true, [(AV.fz (FV.bool false)), (AV.fz (FV.sl 1 ([] : LL)))]), (false, [(AV.fz (FV.bool false))])]) [])) ∧ ((((ByteArray.toList s8) == (ByteArray.toList (ByteArray.mk #[]))) = false) → (∃ s9 : ByteArray, ((Fn Tryz.prog 161 [(TV.one (AV.fz (FV.str s8))), (TV.one (AV.fz (FV.str (ByteArray.mk #[48, 49, 50, 51, 52, 53, 54, 55, 56, 57]))))] [] (TV.one (AV.fz (FV.str s9))) []) ∧ ((((Bool.not ((ByteArray.toList s9) == (ByteArray.toList (ByteArray.mk #[])))) = true) → (R (TV.tup [(true, [(AV.fz (FV.bool false)), (AV.fz (FV.sl 1 ([] : LL)))]), (false, [(AV.fz (FV.bool false))])]) [])) ∧ (((Bool.not ((ByteArray.toList s9) == (ByteArray.toList (ByteArray.mk #[])))) = false) → (∃ s10 : ByteArray, ((Fn Tryz.prog 162 [(TV.one (AV.fz (FV.str s8))), (TV.one (AV.fz (FV.str (ByteArray.mk #[48]))))] [] (TV.one (AV.fz (FV.str s10))) []) ∧ ((((decide ((576 : Int) < (((ByteArray.size s10) : Nat) : Int))) = true) → (R (TV.tup [(true, [(AV.fz (FV.bool false)), (AV.fz (FV.sl 1 ([] : LL)))]), (false, [(AV.fz (FV.bool false))])]) [])) ∧ (((decide ((576 : Int) < (((ByteArray.size s10) : Nat) : Int))) = false) → (num_Parse_L0 R s10 (Bool.not ((ByteArray.toList s7) == (ByteArray.toList s))) (((ByteArray.size s10) : Nat) : Int) ([] : LL))))))))))))))) ∧ (((Bool.not (Bool.not ((ByteArray.toList s7) == (ByteArray.toList s)))) = false) → (((((ByteArray.toList s7) == (ByteArray.toList (ByteArray.mk #[]))) = true) → (R (TV.tup [(true, [(AV.fz (FV.bool false)), (AV.fz (FV.sl 1 ([] : LL)))]), (false, [(AV.fz (FV.bool false))])]) [])) ∧ ((((ByteArray.toList s7) == (ByteArray.toList (ByteArray.mk #[]))) = false) → (∃ s11 : ByteArray, ((Fn Tryz.prog 161 [(TV.one (AV.fz (FV.str s7))), (TV.one (AV.fz (FV.str (ByteArray.mk #[48, 49, 50, 51, 52, 53, 54, 55, 56, 57]))))] [] (TV.one (AV.fz (FV.str s11))) []) ∧ ((((Bool.not ((ByteArray.toList s11) == (ByteArray.toList (ByteArray.mk #[])))) = true) → (R (TV.tup [(true, [(AV.fz (FV.bool false)), (AV.fz (FV.sl 1 ([] : LL)))]), (false, [(AV.fz (FV.bool false))])]) [])) ∧ (((Bool.not ((ByteArray.toList s11) == (ByteArray.toList (ByteArray.mk #[])))) = false) → (∃ s12 : ByteArray, ((Fn Tryz.prog 162 [(TV.one (AV.fz (FV.str s7))), (TV.one (AV.fz (FV.str (ByteArray.mk #[48]))))] [] (TV.one (AV.fz (FV.str s12))) []) ∧ ((((decide ((576 : Int) < (((ByteArray.size s12) : Nat) : Int))) = true) → (R (TV.tup [(true, [(AV.fz (FV.bool false)), (AV.fz (FV.sl 1 ([] : LL)))]), (false, [(AV.fz (FV.bool false))])]) [])) ∧ (((decide ((576 : Int) < (((ByteArray.size s12) : Nat) : Int))) = false) → (num_Parse_L0 R s12 (Bool.not ((ByteArray.toList s7) == (ByteArray.toList s))) (((ByteArray.size s12) : Nat) : Int) ([] : LL))))))))))))))))
theorem num_Parse_fn (s : ByteArray) {r : TV} {h : List Ob} (H : num_Parse_H (fun r' h' => r' = r ∧ h' = h) s) : Fn Tryz.prog 137 [(TV.one (AV.fz (FV.str s)))] [] r h :=
 Fn.by_tr (M := (modeOf [] [])) (lv := num_Parse_lv) (own := none) (F := Tryz.f137) (by kernel_rfl) (by kernel_rfl) (by first | decide | simp) (fun _ _ h => h) (by kernel_rfl) H
end
section
def bv (acc : Int) (ds : List Int) : Int := ds.foldl (fun a d => a * 10 + d) acc
def ub (ds : List Int) : List UInt8 := ds.map fun d => UInt8.ofNat (48 + d).toNat
theorem bv_snoc (acc : Int) (ds : List Int) (d : Int) : bv acc (ds ++ [d]) = bv acc ds * 10 + d := by simp [bv]
theorem bv_val : ∀ l : List Int, bv 0 l.reverse = val 10 l
 | [] => rfl
 | d :: l => by rw [List.reverse_cons, bv_snoc, bv_val l]; show _ = d + 10 * val 10 l; omega
theorem bv_ge : ∀ (ds : List Int) (acc : Int), 0 ≤ acc → Lim 10 ds → acc ≤ bv acc ds
 | [], acc, _, _ => Int.le_refl _
 | d :: ds, acc, h0, h => by
  have hd := h d List.mem_cons_self
  have := bv_ge ds (acc * 10 + d) (by omega) (fun x hx => h x (List.mem_cons_of_mem _ hx))
  show acc ≤ bv (acc * 10 + d) ds
  omega
theorem ub_digit {d : Int} (h0 : 0 ≤ d) (h1 : d < 10) : (UInt8.ofNat (48 + d).toNat).toNat = 48 + d.toNat := by
 rw [UInt8.toNat_ofNat']; omega
theorem parse_ub : ∀ (ds : List Int) (acc : Nat), acc < 18446744073709551616 → Lim 10 ds → Lib.parseUint10 acc (ub ds) = if bv acc ds < 18446744073709551616 then .ok (bv acc ds).toNat else .range
 | [], acc, ha, _ => by
  show Lib.NumEnd.ok acc = _
  have : bv acc [] = acc := rfl
  rw [this, if_pos (by omega)]; simp
 | d :: ds, acc, ha, h => by
  have hd := h d List.mem_cons_self
  have ht : Lim 10 ds := fun x hx => h x (List.mem_cons_of_mem _ hx)
  have e := ub_digit hd.1 hd.2
  show Lib.parseUint10 acc (UInt8.ofNat (48 + d).toNat :: ub ds) = _
  have hb : bv acc (d :: ds) = bv (acc * 10 + d) ds := rfl
  have hg := bv_ge ds (acc * 10 + d) (by omega) ht
  unfold Lib.parseUint10
  rw [e, if_pos (by omega), hb]
  have e2 : 48 + d.toNat - 48 = d.toNat := by omega
  rw [e2]
  by_cases h1 : 1844674407370955162 ≤ acc
  ·rw [if_pos h1, if_neg (by omega)]
  ·rw [if_neg h1]
   by_cases h2 : 18446744073709551616 ≤ acc * 10 + d.toNat
   ·rw [if_pos h2, if_neg (by omega)]
   ·rw [if_neg h2, parse_ub ds _ (by omega) ht]
    have : (((acc * 10 + d.toNat : Nat)) : Int) = acc * 10 + d := by omega
    rw [this]
theorem data_of (l : List Int) : (bytesOf l).data.toList = l.map fun n => UInt8.ofNat n.toNat := by simp [bytesOf]
end
section
theorem ba_ext {s t : ByteArray} (h : s.data.toList = t.data.toList) : s = t := by
 cases s; cases t
 congr
 exact Array.toList_inj.1 h
def tb (ds : List Int) : ByteArray := ⟨(ub ds).toArray⟩
theorem tb_size (ds : List Int) : (tb ds).size = ds.length := by
 show (tb ds).data.size = _
 simp [tb, ub]
theorem tb_extract (ds : List Int) (a b : Nat) : (tb ds).extract a b = tb ((ds.drop a).take (b - a)) := by
 refine ba_ext ?_
 have h := Lib.extract_toList (tb ds) a b
 rw [ByteArray.toList_eq] at h
 rw [h]
 simp [tb, ub]
theorem app_of (l m : List Int) : bytesOf l ++ bytesOf m = bytesOf (l ++ m) := by
 refine ba_ext ?_
 simp [bytesOf, ByteArray.data_append]
theorem extract_of (l : List Int) (a b : Nat) : (bytesOf l).extract a b = bytesOf ((l.drop a).take (b - a)) := by
 refine ba_ext ?_
 have h := Lib.extract_toList (bytesOf l) a b
 rw [ByteArray.toList_eq] at h
 rw [h]
 simp [bytesOf]
theorem bv_app (l m : List Int) (acc : Int) : bv acc (l ++ m) = bv (bv acc l) m := by simp [bv]
theorem bv_acc : ∀ (m : List Int) (acc : Int), bv acc m = acc * 10 ^ m.length + bv 0 m
 | [], acc => by show acc = acc * 10 ^ 0 + 0; rw [Int.pow_zero]; omega
 | d :: m, acc => by
  show bv (acc * 10 + d) m = _
  rw [bv_acc m (acc * 10 + d)]
  have h : bv 0 (d :: m) = bv (0 * 10 + d) m := rfl
  rw [h, bv_acc m (0 * 10 + d), List.length_cons, Int.pow_succ]
  grind
theorem bv_join (l m : List Int) : bv 0 (l ++ m) = bv 0 l * 10 ^ m.length + bv 0 m := by rw [bv_app, bv_acc]
theorem bv_nonneg (l : List Int) (h : Lim 10 l) : 0 ≤ bv 0 l := bv_ge l 0 (by omega) h
theorem bv_lt (l : List Int) (h : Lim 10 l) : bv 0 l < 10 ^ l.length := by
 have h1 := bv_val l.reverse
 rw [List.reverse_reverse] at h1
 have h2 := val_lt (B := 10) (by omega) (l := l.reverse) (fun x hx => h x (by simpa using hx))
 rw [List.length_reverse] at h2
 omega
theorem bv_cut : ∀ l : List Int, bv 0 (l.dropWhile (· == 0)) = bv 0 l
 | [] => rfl
 | d :: l => by
  rw [List.dropWhile_cons]
  split
  ·rename_i h
   have : d = 0 := by simpa using h
   subst this
   exact bv_cut l
  ·rfl
theorem cut_norm (l : List Int) : Norm (l.dropWhile (· == 0)).reverse := by
 intro hne
 rw [List.getLast_reverse]
 have h1 : l.dropWhile (· == 0) ≠ [] := by simpa using hne
 have := List.head_dropWhile_not (p := fun x : Int => x == 0) (l := l) h1
 simpa using this
theorem cut_lim {l : List Int} (h : Lim 10 l) : Lim 10 (l.dropWhile (· == 0)) := fun x hx => h x ((List.dropWhile_sublist _).subset hx)
theorem cut_digs {l : List Int} (h : Lim 10 l) : (digs 10 (bv 0 l).toNat).length = (l.dropWhile (· == 0)).length := by
 have h1 := bv_val (l.dropWhile (· == 0)).reverse
 rw [List.reverse_reverse, bv_cut] at h1
 have hL : Lim 10 (l.dropWhile (· == 0)).reverse := fun x hx => cut_lim h x (by simpa using hx)
 rw [h1, digsT_eq hL (cut_norm l), List.length_reverse]
theorem atoi_short {ds : List Int} (hne : ds ≠ []) (h : Lim 10 ds) (hl : ds.length ≤ 9) : Lib.atoiAll (ub ds) = .ok (bv 0 ds) := by
 have h0 := bv_nonneg ds h
 have h1 := bv_lt ds h
 have h2 := pow_mono (B := 10) (by omega) hl
 have e9 : (10 : Int) ^ 9 = 1000000000 := by decide
 match ds, hne with
 | d :: ds, _ =>
  have hd := h d List.mem_cons_self
  have e := ub_digit hd.1 hd.2
  have hp := parse_ub (d :: ds) 0 (by omega) h
  rw [show ((0 : Nat) : Int) = 0 from rfl] at hp
  have hm : Lib.parseMag (ub (d :: ds)) = .ok (bv 0 (d :: ds)).toNat := by
   unfold Lib.parseMag
   rw [if_neg (by simp [ub]), hp, if_pos (by omega)]
  rw [show ub (d :: ds) = UInt8.ofNat (48 + d).toNat :: ub ds from rfl] at hm ⊢
  rw [Lib.atoiAll_plain _ _ (by rw [e]; omega) (by rw [e]; omega), hm]
  generalize bv 0 (d :: ds) = v at *
  show (if 9223372036854775808 ≤ v.toNat then Lib.NumEnd.range else .ok ((v.toNat : Nat) : Int)) = _
  rw [if_neg (by omega), Int.toNat_of_nonneg h0]
theorem ring_parse (p B L x : Int) : p * (L * B + x) = p * x + p * B * L := by grind
theorem parse_loop (m : Bool) (D : List Int) (hD : Lim 10 D) (hn : D.length ≤ 576) (R : TV → List Ob → Prop) (z : Int) (hz : z = if m = true then - bv 0 D else bv 0 D)
  (hR : R (.tup [(true, [.fz (.bool (outS z)), .fz (.sl 1 (ints .u32 (outL z)))]), (false, [.fz (.bool (outE z == 0))])]) []) :
  ∀ (k e : Nat) (ei : Int) (o : List Int), e ≤ k → e ≤ D.length → (ei = e ∨ (e = 0 ∧ -9 ≤ ei ∧ ei ≤ 0)) → o.length + e ≤ D.length → Lim 1000000000 o → val 1000000000 o + 1000000000 ^ o.length * bv 0 (D.take e) = bv 0 D →
   num_Parse_L0 R (tb D) m ei (ints .u32 o)
 | k, e, ei, o, hk, he, hei, hlen, hL, hv => by
  refine num_Parse_l0 ?_
  unfold num_Parse_R0
  simp only [dec_t, dec_f, ints_snoc, ints_len, ints_one]
  refine ⟨fun h => ?_, fun h => ?_⟩
  ·have e1 : ei = e := by omega
   subst e1
   have e2 : IntKind.wrap .i64 ((e : Int) - 9) = (e : Int) - 9 := w64 (by omega) (by omega)
   have e3 : (if (0 : Int) > (e : Int) - 9 then 0 else (e : Int) - 9) = ((e - 9 : Nat) : Int) := by split <;> omega
   rw [e2, e3, Int.toNat_natCast, Int.toNat_natCast, tb_extract, tb_size]
   have hLc : Lim 10 ((D.drop (e - 9)).take (e - (e - 9))) := (hD.drop _).take _
   have hlc : ((D.drop (e - 9)).take (e - (e - 9))).length = e - (e - 9) := by rw [List.length_take, List.length_drop]; omega
   have hne : (D.drop (e - 9)).take (e - (e - 9)) ≠ [] := fun h0 => by rw [h0] at hlc; simp at hlc; omega
   have hsplit : D.take e = D.take (e - 9) ++ (D.drop (e - 9)).take (e - (e - 9)) := by
    rw [← List.take_add]; congr 1; omega
   have hb0 := bv_nonneg _ hLc
   have hb1 := bv_lt _ hLc
   have hb2 := pow_mono (B := 10) (by omega) (show ((D.drop (e - 9)).take (e - (e - 9))).length ≤ 9 by omega)
   have e9 : (10 : Int) ^ 9 = 1000000000 := by decide
   have ha := atoi_short hne hLc (by omega)
   have hj : bv 0 (D.take e) = bv 0 (D.take (e - 9)) * 1000000000 + bv 0 ((D.drop (e - 9)).take (e - (e - 9))) := by
    rw [hsplit, bv_join, hlc]
    by_cases h9 : 9 ≤ e
    ·rw [show e - (e - 9) = 9 by omega, e9]
    ·rw [show e - 9 = 0 by omega, List.take_zero]
     show 0 * _ + _ = 0 * _ + _
     omega
   rw [hj] at hv
   generalize (D.drop (e - 9)).take (e - (e - 9)) = c at *
   have hA := Atoi_fn (tb c) (by rw [tb_size]; omega)
   have hav : atoiV (tb c) = bv 0 c := by
    unfold atoiV
    rw [show (tb c).data.toList = ub c from by simp [tb], ha]
   rw [hav] at hA
   refine ⟨⟨by omega, by omega, by omega⟩, _, _, hA, ?_, ?_⟩
   ·simp only [List.length_cons, List.length_nil]; omega
   ·rw [wu32 (by omega) (by omega), ints_app]
    match k, hk with
    | 0, hk => omega
    | k + 1, hk =>
     refine parse_loop m D hD hn R z hz hR k (e - 9) ((e : Int) - 9) (o ++ [bv 0 c]) (by omega) (by omega) (by omega) (by simp; omega) (hL.snoc hb0 (by omega)) ?_
     rw [val_snoc, List.length_append, List.length_singleton, Int.pow_succ, ← hv, ring_parse]
     omega
  ·have e0 : e = 0 := by omega
   subst e0
   rw [List.take_zero, show bv 0 [] = 0 from rfl, Int.mul_zero, Int.add_zero] at hv
   have hz2 : sv m o = z := by rw [hz, ← hv]; rfl
   have := of_ok m o (by omega) hL
   rw [hz2] at this
   exact ⟨_, _, _, this, hR⟩
def okX (X : List Int) : Bool := decide (X ≠ []) && X.all fun c => decide (48 ≤ c ∧ c ≤ 57)
def vX (X : List Int) : Int := bv 0 (X.map (· - 48))
def ptS (m : Bool) (X : List Int) : Bool := if okX X = true then mkS m (vX X) else false
def ptL (X : List Int) : List Int := if okX X = true then mkL (vX X) else []
def ptB (X : List Int) : Bool := if okX X = true then mkB (vX X) else false
abbrev ptT (m : Bool) (X : List Int) : TV := .tup [(true, [.fz (.bool (ptS m X)), .fz (.sl 1 (ints .u32 (ptL X)))]), (false, [.fz (.bool (ptB X))])]
abbrev ptBad : TV := .tup [(true, [.fz (.bool false), .fz (.sl 1 ([] : List (List FV)))]), (false, [.fz (.bool false)])]
theorem ptT_bad {m : Bool} {X : List Int} (h : okX X = false) : ptT m X = ptBad := by
 unfold ptT ptS ptL ptB; rw [h]; rfl
theorem ptT_large {m : Bool} {X : List Int} (h : mkB (vX X) = false) : ptT m X = ptBad := by
 have h1 : 576 < (digs 10 (vX X).toNat).length := by
  unfold mkB at h
  split at h
  ·assumption
  ·cases h
 unfold ptT ptS ptL ptB mkS mkL mkB
 rw [if_pos h1, if_pos h1, if_pos h1]
 cases okX X <;> rfl
theorem pt_dig {X : List Int} (h : X.all (fun c => decide (48 ≤ c ∧ c ≤ 57)) = true) : Lim 10 (X.map (· - 48)) ∧ (bytesOf X).data.toList = ub (X.map (· - 48)) := by
 rw [List.all_eq_true] at h
 constructor
 ·intro x hx
  obtain ⟨c, hc, rfl⟩ := List.mem_map.1 hx
  have := h c hc
  simp only [decide_eq_true_eq] at this
  omega
 ·rw [data_of, ub, List.map_map]
  refine List.map_congr_left fun c hc => ?_
  show UInt8.ofNat c.toNat = UInt8.ofNat (48 + (c - 48)).toNat
  congr 2
  omega
theorem dw_nil (p : UInt8 → Bool) : ∀ l : List UInt8, l.dropWhile p = [] ↔ ∀ x ∈ l, p x = true
 | [] => by simp
 | x :: l => by
  rw [List.dropWhile_cons]
  by_cases h : p x = true
  ·rw [if_pos h, dw_nil p l]; simp [h]
  ·rw [if_neg h]; simp [h]
theorem trim_nil (p : UInt8 → Bool) (l : List UInt8) : ((l.reverse.dropWhile p).reverse.dropWhile p = []) ↔ l.all p = true := by
 rw [dw_nil, List.all_eq_true]
 constructor
 ·intro h
  have h2 : l.reverse.dropWhile p = [] := by
   by_cases hne : l.reverse.dropWhile p = []
   ·exact hne
   ·have := List.head_dropWhile_not (p := p) (l := l.reverse) hne
    have h3 := h _ (List.mem_reverse.2 (List.head_mem hne))
    rw [this] at h3; cases h3
  rw [dw_nil] at h2
  exact fun x hx => h2 x (by simpa using hx)
 ·intro h x hx
  exact h x (by simpa using (List.dropWhile_sublist _).subset (List.mem_reverse.1 hx))
theorem ten_has (c : UInt8) : ([48, 49, 50, 51, 52, 53, 54, 55, 56, 57] : List UInt8).contains c = decide (48 ≤ c.toNat ∧ c.toNat ≤ 57) := by
 rw [Bool.eq_iff_iff]
 simp [← UInt8.toNat_inj]
 omega
theorem all_map {X : List Int} (hX : Bytes X) : (X.map fun n => UInt8.ofNat n.toNat).all (([48, 49, 50, 51, 52, 53, 54, 55, 56, 57] : List UInt8).contains ·) = X.all fun c => decide (48 ≤ c ∧ c ≤ 57) := by
 rw [Bool.eq_iff_iff, List.all_map, List.all_eq_true, List.all_eq_true]
 refine forall_congr' fun x => ⟨fun h hx => ?_, fun h hx => ?_⟩
 all_goals
  have h1 := h hx
  have h2 := hX x hx
  have h3 := u8_back h2.1 h2.2
 ·simp only [Function.comp_apply, ten_has, decide_eq_true_eq] at h1 ⊢
  omega
 ·simp only [Function.comp_apply, ten_has, decide_eq_true_eq] at h1 ⊢
  omega
theorem trim_test {X : List Int} (hX : Bytes X) : ((ByteArray.toList ⟨(Lib.trimS (bytesOf X).data.toList (ByteArray.mk #[48, 49, 50, 51, 52, 53, 54, 55, 56, 57]).data.toList).toArray⟩) == ByteArray.toList (ByteArray.mk #[])) = X.all fun c => decide (48 ≤ c ∧ c ≤ 57) := by
 rw [ByteArray.toList_eq, ByteArray.toList_eq, ← all_map hX, data_of]
 generalize X.map (fun n => UInt8.ofNat n.toNat) = l
 rw [Bool.eq_iff_iff, ← trim_nil, beq_iff_eq]
 rfl
theorem cutB : ∀ (D : List Int), Lim 10 D → Lib.trimLeftB (ub D) 48 = ub (D.dropWhile (· == 0))
 | [], _ => rfl
 | d :: D, h => by
  have hd := h d List.mem_cons_self
  have e := ub_digit hd.1 hd.2
  have ih := cutB D (fun x hx => h x (List.mem_cons_of_mem _ hx))
  show List.dropWhile _ (UInt8.ofNat (48 + d).toNat :: ub D) = ub (List.dropWhile _ (d :: D))
  rw [List.dropWhile_cons, List.dropWhile_cons]
  by_cases h0 : d = 0
  ·subst h0
   exact ih
  ·have : (UInt8.ofNat (48 + d).toNat == 48) = false := by
    rw [beq_eq_false_iff_ne, ne_eq, ← UInt8.toNat_inj, e]
    show ¬ 48 + d.toNat = 48
    omega
   rw [this, show (d == 0) = false by simpa using h0]
   rfl
theorem parse_tail (m : Bool) (X : List Int) (hX : Bytes X) (hlen : X.length ≤ 140737488355328) (R : TV → List Ob → Prop) (hR : R (ptT m X) []) :
  ((ByteArray.toList (bytesOf X) == ByteArray.toList (ByteArray.mk #[])) = true → R ptBad []) ∧
  ((ByteArray.toList (bytesOf X) == ByteArray.toList (ByteArray.mk #[])) = false →
   ∃ s9 : ByteArray, Fn Tryz.prog 161 [.one (.fz (.str (bytesOf X))), .one (.fz (.str (ByteArray.mk #[48, 49, 50, 51, 52, 53, 54, 55, 56, 57])))] [] (.one (.fz (.str s9))) [] ∧
    ((Bool.not (ByteArray.toList s9 == ByteArray.toList (ByteArray.mk #[]))) = true → R ptBad []) ∧
    ((Bool.not (ByteArray.toList s9 == ByteArray.toList (ByteArray.mk #[]))) = false →
     ∃ s10 : ByteArray, Fn Tryz.prog 162 [.one (.fz (.str (bytesOf X))), .one (.fz (.str (ByteArray.mk #[48])))] [] (.one (.fz (.str s10))) [] ∧
      (decide ((576 : Int) < ((ByteArray.size s10 : Nat) : Int)) = true → R ptBad []) ∧
      (decide ((576 : Int) < ((ByteArray.size s10 : Nat) : Int)) = false → num_Parse_L0 R s10 m ((ByteArray.size s10 : Nat) : Int) ([] : List (List FV))))) := by
 have e0 : (ByteArray.toList (bytesOf X) == ByteArray.toList (ByteArray.mk #[])) = decide (X = []) := eq_bytes (m := []) hX Bytes.nil
 rw [e0, dec_t, dec_f]
 refine ⟨fun h => ?_, fun hne => ⟨_, Trim_fn (bytesOf X) _ (by rw [size_of]; omega) (by decide) (by decide +kernel), ?_⟩⟩
 ·subst h
  rw [ptT_bad rfl] at hR; exact hR
 ·rw [trim_test hX, not_t, not_f]
  refine ⟨fun h => ?_, fun h => ⟨_, TrimLeft_fn (bytesOf X) 48 (by decide), ?_⟩⟩
  ·rw [ptT_bad (by unfold okX; rw [h, Bool.and_false])] at hR; exact hR
  ·obtain ⟨hL, hd⟩ := pt_dig h
   have hok : okX X = true := by unfold okX; rw [h]; simpa using hne
   rw [hd, cutB _ hL]
   have hsz := tb_size ((X.map (· - 48)).dropWhile (· == 0))
   unfold tb at hsz
   have hc := cut_digs hL
   have hv0 := bv_nonneg _ hL
   have hcut := bv_cut (X.map (· - 48))
   rw [hsz, dec_t, dec_f]
   refine ⟨fun hl => ?_, fun hl => ?_⟩
   ·have hb : mkB (vX X) = false := by
     unfold mkB vX
     rw [if_pos (by omega)]
    rw [ptT_large hb] at hR; exact hR
   ·have hb : mkB (vX X) = true := by
     unfold mkB vX
     rw [if_neg (by omega)]
    have hv0' : 0 ≤ vX X := hv0
    obtain ⟨h1, h2, h3⟩ := (mk_out m (vX X) hv0').1 hb
    refine parse_loop m _ (cut_lim hL) (by omega) R (if m = true then - vX X else vX X) (by rw [hcut]; rfl) ?_ _ _ _ [] (Nat.le_refl _) (Nat.le_refl _) (.inl rfl) (by simp) (Lim.nil _) ?_
    ·rw [h1, h2, h3]
     unfold ptT ptS ptL ptB at hR
     rw [if_pos hok, if_pos hok, if_pos hok, hb] at hR
     exact hR
    ·rw [List.take_length]
     show 0 + 1000000000 ^ 0 * _ = _
     rw [Int.pow_zero]; omega
def pNeg (T : List Int) : Bool := decide (T.head? = some 45)
def pRest (T : List Int) : List Int := if T.head? = some 45 ∨ T.head? = some 43 then T.tail else T
theorem trimP (T : List Int) (hT : Bytes T) (c : Nat) (hc : c < 256) : (⟨(Lib.trimPrefix (bytesOf T).data.toList [UInt8.ofNat c]).toArray⟩ : ByteArray) = bytesOf (if T.head? = some (c : Int) then T.tail else T) := by
 refine ba_ext ?_
 rw [data_of, data_of]
 unfold Lib.trimPrefix
 cases T with
 | nil => rfl
 | cons x T =>
  have hx := hT x List.mem_cons_self
  have h3 := u8_back hx.1 hx.2
  have hcc : (UInt8.ofNat c).toNat = c := by rw [UInt8.toNat_ofNat']; omega
  have : Lib.hasPrefix ((x :: T).map fun n => UInt8.ofNat n.toNat) [UInt8.ofNat c] = decide (x = (c : Int)) := by
   unfold Lib.hasPrefix
   rw [Bool.eq_iff_iff]
   simp [← UInt8.toNat_inj]
   omega
  rw [this]
  by_cases h : x = (c : Int)
  ·simp [h]
  ·simp [h]
theorem parse_ok (T : List Int) (hT : Bytes T) (hlen : T.length ≤ 140737488355328) : Fn Tryz.prog 137 [.one (.fz (.str (bytesOf T)))] [] (ptT (pNeg T) (pRest T)) [] := by
 refine num_Parse_fn _ ?_
 unfold num_Parse_H
 have hp : ∀ c : Nat, c < 256 → Bytes (if T.head? = some (c : Int) then T.tail else T) := fun c _ => by
  split
  ·exact fun x hx => hT x (List.mem_of_mem_tail hx)
  ·exact hT
 have f1 := TrimPrefix_fn (bytesOf T) (ByteArray.mk #[45])
 rw [show (ByteArray.mk #[45]).data.toList = [UInt8.ofNat 45] from rfl, trimP T hT 45 (by omega)] at f1
 refine ⟨_, f1, ?_⟩
 rw [eq_bytes (hp 45 (by omega)) hT]
 by_cases h : T.head? = some 45
 ·have hT1 : (if T.head? = some ((45 : Nat) : Int) then T.tail else T) = T.tail := if_pos h
  have hne : ¬ T.tail = T := by
   intro h2
   cases T with
   | nil => cases h
   | cons x T =>
    have := congrArg List.length h2
    simp at this
  rw [hT1, decide_eq_false hne]
  have e1 : pNeg T = true := decide_eq_true h
  have e2 : pRest T = T.tail := if_pos (.inl h)
  rw [e1, e2]
  refine ⟨fun h => (by cases h), fun _ => ?_⟩
  exact parse_tail true T.tail (fun x hx => hT x (List.mem_of_mem_tail hx)) (by rw [List.length_tail]; omega) (fun r' h' => r' = ptT true T.tail ∧ h' = []) ⟨rfl, rfl⟩
 ·have hT1 : (if T.head? = some ((45 : Nat) : Int) then T.tail else T) = T := if_neg h
  rw [hT1, decide_eq_true rfl]
  refine ⟨fun _ => ?_, fun h => (by cases h)⟩
  have f2 := TrimPrefix_fn (bytesOf T) (ByteArray.mk #[43])
  rw [show (ByteArray.mk #[43]).data.toList = [UInt8.ofNat 43] from rfl, trimP T hT 43 (by omega)] at f2
  refine ⟨_, f2, ?_⟩
  have e1 : pNeg T = false := decide_eq_false h
  have e2 : pRest T = (if T.head? = some ((43 : Nat) : Int) then T.tail else T) := by
   unfold pRest
   by_cases h2 : T.head? = some 43
   ·rw [if_pos (.inr h2)]; exact (if_pos h2).symm
   ·rw [if_neg (fun hh => hh.elim h h2)]; exact (if_neg h2).symm
  rw [e1, e2]
  refine parse_tail false _ (hp 43 (by omega)) ?_ (fun r' h' => r' = ptT false (if T.head? = some ((43 : Nat) : Int) then T.tail else T) ∧ h' = []) ⟨rfl, rfl⟩
  split
  ·rw [List.length_tail]; omega
  ·exact hlen
end
section
theorem byte_at {T : List Int} (hT : Bytes T) {i : Nat} (h : i < T.length) : ∃ c : UInt8, (ByteArray.data (bytesOf T))[i]? = some c ∧ ((c.toNat : Nat) : Int) = rd T i :=
 (ex_byte hT (Q := fun n => n = rd T i)).2 ⟨h, rfl⟩
end
section
def token_Atom_lv : List Nat → Keep := lvOf []
def token_Atom_H (R : TV → List Ob → Prop) (s : ByteArray) : Prop :=
 (((((ByteArray.toList s) == (ByteArray.toList (ByteArray.mk #[35, 116]))) = true) → (R (TV.tup [(true, [(AV.fz (FV.int .i64 8)), (AV.fz (FV.str (ByteArray.mk #[]))), (AV.fz (FV.bool false)), (AV.fz (FV.sl 1 ([] : LL))), (AV.fz (FV.sl 6 ([] : LL))), (AV.fz (FV.int .i64 0))]), (false, [(AV.fz (FV.bool true))])]) [])) ∧ ((((ByteArray.toList s) == (ByteArray.toList (ByteArray.mk #[35, 116]))) = false) → (((((ByteArray.toList s) == (ByteArray.toList (ByteArray.mk #[35, 116, 114, 117, 101]))) = true) → (R (TV.tup [(true, [(AV.fz (FV.int .i64 8)), (AV.fz (FV.str (ByteArray.mk #[]))), (AV.fz (FV.bool false)), (AV.fz (FV.sl 1 ([] : LL))), (AV.fz (FV.sl 6 ([] : LL))), (AV.fz (FV.int .i64 0))]), (false, [(AV.fz (FV.bool true))])]) [])) ∧ ((((ByteArray.toList s) == (ByteArray.toList (ByteArray.mk #[35, 116, 114, 117, 101]))) = false) → (((((ByteArray.toList s) == (ByteArray.toList (ByteArray.mk #[35, 102]))) = true) → (R (TV.tup [(true, [(AV.fz (FV.int .i64 9)), (AV.fz (FV.str (ByteArray.mk #[]))), (AV.fz (FV.bool false)), (AV.fz (FV.sl 1 ([] : LL))), (AV.fz (FV.sl 6 ([] : LL))), (AV.fz (FV.int .i64 0))]), (false, [(AV.fz (FV.bool true))])]) [])) ∧ ((((ByteArray.toList s) == (ByteArray.toList (ByteArray.mk #[35, 102]))) = false) → (((((ByteArray.toList s) == (ByteArray.toList (ByteArray.mk #[35, 102, 97, 108, 115, 101]))) = true) → (R (TV.tup [(true, [(AV.fz (FV.int .i64 9)), (AV.fz (FV.str (ByteArray.mk #[]))), (AV.fz (FV.bool false)), (AV.fz (FV.sl 1 ([] : LL))), (AV.fz (FV.sl 6 ([] : LL))), (AV.fz (FV.int .i64 0))]), (false, [(AV.fz (FV.bool true))])]) [])) ∧ ((((ByteArray.toList s) == (ByteArray.toList (ByteArray.mk #[35, 102, 97, 108, 115, 101]))) = false) → (∃ b12 : Bool, (∃ es2 : LL, (∃ b13 : Bool, ((Fn Tryz.prog 137 [(TV.one (AV.fz (FV.str s)))] [] (TV.tup [(true, [(AV.fz (FV.bool b12)), (AV.fz (FV.sl 1 es2))]), (false, [(AV.fz (FV.bool b13))])]) []) ∧ (((b13 = true) → (R (TV.tup [(true, [(AV.fz (FV.int .i64 7)), (AV.fz (FV.str (ByteArray.mk #[]))), (AV.fz (FV.bool b12)), (AV.fz (FV.sl 1 es2)), (AV.fz (FV.sl 6 ([] : LL))), (AV.fz (FV.int .i64 0))]), (false, [(AV.fz (FV.bool true))])]) [])) ∧ ((b13 = false) → (∃ es3 : LL, (∃ n2 : Int, (∃ n3 : Int, ((Fn Tryz.prog 37 [(TV.one (AV.fz (FV.sl 1 (List.map (fun b15 => [(FV.int .u8 (((UInt8.toNat b15) : Nat) : Int))]) (Array.toList (ByteArray.data s))))))] [] (TV.tup [(false, [(AV.fz (FV.sl 1 es3))]), (false, [(AV.fz (FV.int .i64 n2))]), (false, [(AV.fz (FV.int .i64 n3))])]) []) ∧ (∃ b16 : Bool, ((Fn Tryz.prog 138 [(TV.one (AV.fz (FV.str s))), (TV.one (AV.fz (FV.str (ByteArray.mk #[43]))))] [] (TV.one (AV.fz (FV.bool b16))) []) ∧ (((b16 = true) → (((((ByteArray.toList s) == (ByteArray.toList (ByteArray.mk #[]))) = true) → (R (TV.tup [(true, [(AV.fz (FV.int .i64 0)), (AV.fz (FV.str (ByteArray.mk #[]))), (AV.fz (FV.bool false)), (AV.fz (FV.sl 1 ([] : LL))), (AV.fz (FV.sl 6 ([] : LL))), (AV.fz (FV.int .i64 0))]), (false, [(AV.fz (FV.bool false))])]) [])) ∧ ((((ByteArray.toList s) == (ByteArray.toList (ByteArray.mk #[]))) = false) → (((((ByteArray.toList s) == (ByteArray.toList (ByteArray.mk #[46]))) = true) → (R (TV.tup [(true, [(AV.fz (FV.int .i64 0)), (AV.fz (FV.str (ByteArray.mk #[]))), (AV.fz (FV.bool false)), (AV.fz (FV.sl 1 ([] : LL))), (AV.fz (FV.sl 6 ([] : LL))), (AV.fz (FV.int .i64 0))]), (false, [(AV.fz (FV.bool false))])]) [])) ∧ ((((ByteArray.toList s) == (ByteArray.toList (ByteArray.mk #[46]))) = false) → ((((decide ((64 : Int) < (((ByteArray.size s) : Nat) : Int))) = true) → (R (TV.tup [(true, [(AV.fz (FV.int .i64 0)), (AV.fz (FV.str (ByteArray.mk #[]))), (AV.fz (FV.bool false)), (AV.fz (FV.sl 1 ([] : LL))), (AV.fz (FV.sl 6 ([] : LL))), (AV.fz (FV.int .i64 0))]), (false, [(AV.fz (FV.bool false))])]) [])) ∧ (((decide ((64 : Int) < (((ByteArray.size s) : Nat) : Int))) = false) → ((((n3 != 0) = true) → (R (TV.tup [(true, [(AV.fz (FV.int .i64 0)), (AV.fz (FV.str (ByteArray.mk #[]))), (AV.fz (FV.bool false)), (AV.fz (FV.sl 1 ([] : LL))), (AV.fz (FV.sl 6 ([] : LL))), (AV.fz (FV.int .i64 0))]), (false, [(AV.fz (FV.bool false))])]) [])) ∧ (((n3 != 0) = false) → (∃ b17 : Bool, ((Fn Tryz.prog 55 [(TV.one (AV.fz (FV.sl 1 es3))), (TV.one (AV.fz (FV.fn 104 [])))] [] (TV.one (AV.fz (FV.bool b17))) []) ∧ (((b17 = true) → (R (TV.tup [(true, [(AV.fz (FV.int .i64 0)), (AV.fz (FV.str (ByteArray.mk #[]))), (AV.fz (FV.bool false)), (AV.fz (FV.sl 1 ([] : LL))), (AV.fz (FV.sl 6 ([] : LL))), (AV.fz (FV.int .i64 0))]), (false, [(AV.fz (FV.bool false))])]) [])) ∧ ((b17 = false) → (((0 : Int) ≤ 0) ∧ (∃ c2 : UInt8, ((((ByteArray.data s))[(Int.toNat 0)]? = (some c2)) ∧ (((((((UInt8.toNat c2) : Nat) : Int) == 35) = true) → (R (TV.tup [(true, [(AV.fz (FV.int .i64 0)), (AV.fz (FV.str (ByteArray.mk #[]))), (AV.fz (FV.bool false)), (AV.fz (FV.sl 1 ([] : LL))), (AV.fz (FV.sl 6 ([] : LL))), (AV.fz (FV.int .i64 0))]), (false, [(AV.fz (FV.bool false))])]) [])) ∧ ((((((UInt8.toNat c2) : Nat) : Int) == 35) = false) → (∃ b18 : Bool, ((Fn Tryz.prog 139 [(TV.one (AV.fz (FV.str s))), (TV.one (AV.fz (FV.int .i64 0)))] [] (TV.one (AV.fz (FV.bool b18))) []) ∧ (((b18 = true) → (R (TV.tup [(true, [(AV.fz (FV.int .i64 0)), (AV.fz (FV.str (ByteArray.mk #[]))), (AV.fz (FV.bool false)), (AV.fz (FV.sl 1 ([] : LL))), (AV.fz (FV.sl 6 ([] : LL))), (AV.fz (FV.int .i64 0))]), (false, [(AV.fz (FV.bool false))])]) [])) ∧ ((b18 = false) → (∃ b19 : Bool, ((Fn Tryz.prog 139 [(TV.one (AV.fz (FV.str s))), (TV.one (AV.fz (FV.int .i64 1)))] [] (TV.one (AV.fz (FV.bool b19))) []) ∧ (((b19 = true) → (R (TV.tup [(true, [(AV.fz (FV.int .i64 0)), (AV.fz (FV.str (ByteArray.mk #[]))), (AV.fz (FV.bool false)), (AV.fz (FV.sl 1 ([] : LL))), (AV.fz (FV.sl 6 ([] : LL))), (AV.fz (FV.int .i64 0))]), (false, [(AV.fz (FV.bool false))])]) [])) ∧ ((b19 = false) → (R (TV.tup [(true, [(AV.fz (FV.int .i64 4)), (AV.fz (FV.str s)), (AV.fz (FV.bool false)), (AV.fz (FV.sl 1 ([] : LL))), (AV.fz (FV.sl 6 ([] : LL))), (AV.fz (FV.int .i64 0))]), (false, [(AV.fz (FV.bool true))])]) []))))))))))))))))))))))))))) ∧ ((b16 = false) → (∃ b20 : Bool, ((Fn Tryz.prog 138 [(TV.one (AV.fz (FV.str s))), (TV.one (AV.fz (FV.str (ByteArray.mk #[45]))))] [] (TV.one (AV.fz (FV.bool b20))) []) ∧ (((((ByteArray.toList s) == (ByteArray.toList (ByteArray.mk #[]))) = true) → (R (TV.tup [(true, [(AV.fz (FV.int .i64 0)), (AV.fz (FV.str (ByteArray.mk #[]))), (AV.fz (FV.bool false)), (AV.fz (FV.sl 1 ([] : LL))), (AV.fz (FV.sl 6 ([] : LL))), (AV.fz (FV.int .i64 0))]), (false, [(AV.fz (FV.bool false))])]) [])) ∧ ((((ByteArray.toList s) == (ByteArray.toList (ByteArray.mk #[]))) = false) → (((((ByteArray.toList s) == (ByteArray.toList (ByteArray.mk #[46]))) = true) → (R (TV.tup [(true, [(AV.fz (FV.int .i64 0)), (AV.fz (FV.str (ByteArray.mk #[]))), (AV.fz (FV.bool false)), (AV.fz (FV.sl 1 ([] : LL))), (AV.fz (FV.sl 6 ([] : LL))), (AV.fz (FV.int .i64 0))]), (false, [(AV.fz (FV.bool false))])]) [])) ∧ ((((ByteArray.toList s) == (ByteArray.toList (ByteArray.mk #[46]))) = false) → ((((decide ((64 : Int) < (((ByteArray.size s) : Nat) : Int))) = true) → (R (TV.tup [(true, [(AV.fz (FV.int .i64 0)), (AV.fz (FV.str (ByteArray.mk #[]))), (AV.fz (FV.bool false)), (AV.fz (FV.sl 1 ([] : LL))), (AV.fz (FV.sl 6 ([] : LL))), (AV.fz (FV.int .i64 0))]), (false, [(AV.fz (FV.bool false))])]) [])) ∧ (((decide ((64 : Int) < (((ByteArray.size s) : Nat) : Int))) = false) → ((((n3 != 0) = true) → (R (TV.tup [(true, [(AV.fz (FV.int .i64 0)), (AV.fz (FV.str (ByteArray.mk #[]))), (AV.fz (FV.bool false)), (AV.fz (FV.sl 1 ([] : LL))), (AV.fz (FV.sl 6 ([] : LL))), (AV.fz (FV.int .i64 0))]), (false, [(AV.fz (FV.bool false))])]) [])) ∧ (((n3 != 0) = false) → (∃ b21 : Bool, ((Fn Tryz.prog 55 [(TV.one (AV.fz (FV.sl 1 es3))), (TV.one (AV.fz (FV.fn 104 [])))] [] (TV.one (AV.fz (FV.bool b21))) []) ∧ (((b21 = true) → (R (TV.tup [(true, [(AV.fz (FV.int .i64 0)), (AV.fz (FV.str (ByteArray.mk #[]))), (AV.fz (FV.bool false)), (AV.fz (FV.sl 1 ([] : LL))), (AV.fz (FV.sl 6 ([] : LL))), (AV.fz (FV.int .i64 0))]), (false, [(AV.fz (FV.bool false))])]) [])) ∧ ((b21 = false) → (((0 : Int) ≤ 0) ∧ (∃ c3 : UInt8, ((((ByteArray.data s))[(Int.toNat 0)]? = (some c3)) ∧ (((((((UInt8.toNat c3) : Nat) : Int) == 35) = true) → (R (TV.tup [(true, [(AV.fz (FV.int .i64 0)), (AV.fz (FV.str (ByteArray.mk #[]))), (AV.fz (FV.bool false)), (AV.fz (FV.sl 1 ([] : LL))), (AV.fz (FV.sl 6 ([] : LL))), (AV.fz (FV.int .i64 0))]), (false, [(AV.fz (FV.bool false))])]) [])) ∧ ((((((UInt8.toNat c3) : Nat) : Int) == 35) = false) → (∃ b22 : Bool, ((Fn Tryz.prog 139 [(TV.one (AV.fz (FV.str s))), (TV.one (AV.fz (FV.int .i64 0)))] [] (TV.one (AV.fz (FV.bool b22))) []) ∧ (((b22 = true) → (R (TV.tup [(true, [(AV.fz (FV.int .i64 0)), (AV.fz (FV.str (ByteArray.mk #[]))), (AV.fz (FV.bool false)), (AV.fz (FV.sl 1 ([] : LL))), (AV.fz (FV.sl 6 ([] : LL))), (AV.fz (FV.int .i64 0))]), (false, [(AV.fz (FV.bool false))])]) [])) ∧ ((b22 = false) → (((b20 = true) → (∃ b23 : Bool, ((Fn Tryz.prog 139 [(TV.one (AV.fz (FV.str s))), (TV.one (AV.fz (FV.int .i64 1)))] [] (TV.one (AV.fz (FV.bool b23))) []) ∧ (((b23 = true) → (R (TV.tup [(true, [(AV.fz (FV.int .i64 0)), (AV.fz (FV.str (ByteArray.mk #[]))), (AV.fz (FV.bool false)), (AV.fz (FV.sl 1 ([] : LL))), (AV.fz (FV.sl 6 ([] : LL))), (AV.fz (FV.int .i64 0))]), (false, [(AV.fz (FV.bool false))])]) [])) ∧ ((b23 = false) → (R (TV.tup [(true, [(AV.fz (FV.int .i64 4)), (AV.fz (FV.str s)), (AV.fz (FV.bool false)), (AV.fz (FV.sl 1 ([] : LL))), (AV.fz (FV.sl 6 ([] : LL))), (AV.fz (FV.int .i64 0))]), (false, [(AV.fz (FV.bool true))])]) [])))))) ∧ ((b20 = false) → (R (TV.tup [(true, [(AV.fz (FV.int .i64 4)), (AV.fz (FV.str s)), (AV.fz (FV.bool false)), (AV.fz (FV.sl 1 ([] : LL))), (AV.fz (FV.sl 6 ([] : LL))), (AV.fz (FV.int .i64 0))]), (false, [(AV.fz (FV.bool true))])]) []))))))))))))))))))))))))))))))))))))))))))))))))
theorem token_Atom_fn (s : ByteArray) {r : TV} {h : List Ob} (H : token_Atom_H (fun r' h' => r' = r ∧ h' = h) s) : Fn Tryz.prog 110 [(TV.one (AV.fz (FV.str s)))] [] r h :=
 Fn.by_tr (M := (modeOf [] [])) (lv := token_Atom_lv) (own := none) (F := Tryz.f110) (by kernel_rfl) (by kernel_rfl) (by first | decide | simp) (fun _ _ h => h) (by kernel_rfl) H
def token_digit_lv : List Nat → Keep := lvOf []
def token_digit_H (R : TV → List Ob → Prop) (s : ByteArray) (at_ : Int) : Prop :=
 ((((decide (at_ < (((ByteArray.size s) : Nat) : Int))) = true) → (((0 : Int) ≤ at_) ∧ (∃ c2 : UInt8, ((((ByteArray.data s))[(Int.toNat at_)]? = (some c2)) ∧ ((((decide ((48 : Int) ≤ (((UInt8.toNat c2) : Nat) : Int))) = true) → (((0 : Int) ≤ at_) ∧ (∃ c3 : UInt8, ((((ByteArray.data s))[(Int.toNat at_)]? = (some c3)) ∧ (R (TV.one (AV.fz (FV.bool (decide ((((UInt8.toNat c3) : Nat) : Int) ≤ 57))))) []))))) ∧ (((decide ((48 : Int) ≤ (((UInt8.toNat c2) : Nat) : Int))) = false) → (R (TV.one (AV.fz (FV.bool false))) []))))))) ∧ (((decide (at_ < (((ByteArray.size s) : Nat) : Int))) = false) → (R (TV.one (AV.fz (FV.bool false))) [])))
theorem token_digit_fn (s : ByteArray) (at_ : Int) {r : TV} {h : List Ob} (H : token_digit_H (fun r' h' => r' = r ∧ h' = h) s at_) : Fn Tryz.prog 139 [(TV.one (AV.fz (FV.str s))), (TV.one (AV.fz (FV.int .i64 at_)))] [] r h :=
 Fn.by_tr (M := (modeOf [] [])) (lv := token_digit_lv) (own := none) (F := Tryz.f139) (by kernel_rfl) (by kernel_rfl) (by first | decide | simp) (fun _ _ h => h) (by kernel_rfl) H
def utf_Decode_lv : List Nat → Keep := lvOf [([0, 0, 1, 1], ⟨13, 0, [], false, false⟩)]
def utf_Decode_S0 (b : LL) (at_ : Int) (o : LL) : St := (St.mk [(TV.one (AV.fz (FV.sl 1 b))), TV.und, (TV.one (AV.ofl 1 0)), (TV.one (AV.fz (FV.int .i64 at_))), TV.und, TV.und, TV.und, TV.und, TV.und, TV.und, TV.und, TV.und, TV.und, TV.und, TV.und, TV.und, TV.und, TV.und, TV.und, TV.und, TV.und, TV.und, TV.und, TV.und, TV.und, TV.und, TV.und, TV.und, TV.und, TV.und, TV.und, TV.und, TV.und, TV.und, TV.und, TV.und, TV.und] [(Ob.f 0 1 o)])
def utf_Decode_L0 (R : TV → List Ob → Prop) (b : LL) (at_ : Int) (o : LL) : Prop := LoopAt Tryz.prog (modeOf [] []) utf_Decode_lv Tryz.f37 none R [1, 1, 0, 0] (utf_Decode_S0 b at_ o)
def utf_Decode_R0 (R : TV → List Ob → Prop) (b : List (List FV)) (at_ : Int) (o : List (List FV)) : Prop :=
 ((((decide (at_ < (((List.length b) : Nat) : Int))) = true) → ((((0 : Int) ≤ at_) ∧ (at_ ≤ (((List.length b) : Nat) : Int))) ∧ (∃ n4 : Int, (∃ n5 : Int, ((Fn Tryz.prog 61 [(TV.one (AV.fz (FV.sl 1 (List.drop (Int.toNat at_) b))))] [] (TV.tup [(false, [(AV.fz (FV.int .i32 n4))]), (false, [(AV.fz (FV.int .i64 n5))])]) []) ∧ ((((n4 == 65533) = true) → ((((decide (n5 < 2)) = true) → (R (TV.tup [(false, [(AV.fz (FV.sl 1 ([] : LL)))]), (false, [(AV.fz (FV.int .i64 at_))]), (false, [(AV.fz (FV.int .i64 4))])]) [])) ∧ (((decide (n5 < 2)) = false) → (((((List.length o) + (List.length [[(FV.int .i64 (IntKind.wrap .i64 n4))]])) * 8) ≤ 220000000000000) ∧ (utf_Decode_L0 R b (IntKind.wrap .i64 (at_ + n5)) (o ++ [[(FV.int .i64 (IntKind.wrap .i64 n4))]])))))) ∧ (((n4 == 65533) = false) → (((((List.length o) + (List.length [[(FV.int .i64 (IntKind.wrap .i64 n4))]])) * 8) ≤ 220000000000000) ∧ (utf_Decode_L0 R b (IntKind.wrap .i64 (at_ + n5)) (o ++ [[(FV.int .i64 (IntKind.wrap .i64 n4))]])))))))))) ∧ (((decide (at_ < (((List.length b) : Nat) : Int))) = false) → (R (TV.tup [(false, [(AV.fz (FV.sl 1 o))]), (false, [(AV.fz (FV.int .i64 0))]), (false, [(AV.fz (FV.int .i64 0))])]) [])))
theorem utf_Decode_l0 {R : TV → List Ob → Prop} {b : LL} {at_ : Int} {o : LL} (h : utf_Decode_R0 R b at_ o) : utf_Decode_L0 R b at_ o :=
 LoopAt.by_tr (by kernel_rfl) (by kernel_rfl) h
def utf_Decode_H (R : TV → List Ob → Prop) (b : List (List FV)) : Prop :=
 ((((decide ((65536 : Int) < (((List.length b) : Nat) : Int))) = true) → (R (TV.tup [(false, [(AV.fz (FV.sl 1 ([] : LL)))]), (false, [(AV.fz (FV.int .i64 0))]), (false, [(AV.fz (FV.int .i64 6))])]) [])) ∧ (((decide ((65536 : Int) < (((List.length b) : Nat) : Int))) = false) → (utf_Decode_L0 R b 0 ([] : LL))))
theorem utf_Decode_fn (b : LL) {r : TV} {h : List Ob} (H : utf_Decode_H (fun r' h' => r' = r ∧ h' = h) b) : Fn Tryz.prog 37 [(TV.one (AV.fz (FV.sl 1 b)))] [] r h :=
 Fn.by_tr (M := (modeOf [] [])) (lv := utf_Decode_lv) (own := none) (F := Tryz.f37) (by kernel_rfl) (by kernel_rfl) (by first | decide | simp) (fun _ _ h => h) (by kernel_rfl) H
def utf_Ends_lv : List Nat → Keep := lvOf []
def utf_Ends_H (R : TV → List Ob → Prop) (c : Int) : Prop :=
 (∃ b1 : Bool, ((Fn Tryz.prog 102 [(TV.one (AV.fz (FV.int .i64 c)))] [] (TV.one (AV.fz (FV.bool b1))) []) ∧ (((b1 = true) → (R (TV.one (AV.fz (FV.bool true))) [])) ∧ ((b1 = false) → ((((decide ((0 : Int) < c)) = true) → ((((decide (c < 128)) = true) → (∃ n1 : Int, ((Fn Tryz.prog 131 [(TV.one (AV.fz (FV.str (ByteArray.mk #[40, 41, 59, 34, 39, 96, 44])))), (TV.one (AV.fz (FV.int .u8 (IntKind.wrap .u8 c))))] [] (TV.one (AV.fz (FV.int .i64 n1))) []) ∧ (R (TV.one (AV.fz (FV.bool (decide ((0 : Int) ≤ n1))))) [])))) ∧ (((decide (c < 128)) = false) → (R (TV.one (AV.fz (FV.bool false))) [])))) ∧ (((decide ((0 : Int) < c)) = false) → (R (TV.one (AV.fz (FV.bool false))) [])))))))
theorem utf_Ends_fn (c : Int) {r : TV} {h : List Ob} (H : utf_Ends_H (fun r' h' => r' = r ∧ h' = h) c) : Fn Tryz.prog 104 [(TV.one (AV.fz (FV.int .i64 c)))] [] r h :=
 Fn.by_tr (M := (modeOf [] [])) (lv := utf_Ends_lv) (own := none) (F := Tryz.f104) (by kernel_rfl) (by kernel_rfl) (by first | decide | simp) (fun _ _ h => h) (by kernel_rfl) H
def utf_Blank_lv : List Nat → Keep := lvOf []
def utf_Blank_H (R : TV → List Ob → Prop) (c : Int) : Prop :=
 ((((c == 9) = true) → (R (TV.one (AV.fz (FV.bool true))) [])) ∧ (((c == 9) = false) → ((((c == 10) = true) → (R (TV.one (AV.fz (FV.bool true))) [])) ∧ (((c == 10) = false) → ((((c == 13) = true) → (R (TV.one (AV.fz (FV.bool true))) [])) ∧ (((c == 13) = false) → (R (TV.one (AV.fz (FV.bool (c == 32)))) [])))))))
theorem utf_Blank_fn (c : Int) {r : TV} {h : List Ob} (H : utf_Blank_H (fun r' h' => r' = r ∧ h' = h) c) : Fn Tryz.prog 102 [(TV.one (AV.fz (FV.int .i64 c)))] [] r h :=
 Fn.by_tr (M := (modeOf [] [])) (lv := utf_Blank_lv) (own := none) (F := Tryz.f102) (by kernel_rfl) (by kernel_rfl) (by first | decide | simp) (fun _ _ h => h) (by kernel_rfl) H
end
section
def ref02_Same_lv : List Nat → Keep := lvOf [([0, 1, 0, 1, 1], ⟨44, 0, [], false, false⟩)]
def ref02_Same_S0 (a0 : Int) (a1 : ByteArray) (a2 : Bool) (a3 : LL) (a4 : LL) (a5 : Int) (b0 : Int) (b1 : ByteArray) (b2 : Bool) (b3 : LL) (b4 : LL) (b5 : Int) (i : Int) : St := (St.mk [TV.und, TV.und, (TV.one (AV.ptr 0 0 0 0)), (TV.one (AV.ptr 1 0 0 0)), TV.und, (TV.one (AV.fz (FV.int .i64 i))), TV.und, TV.und, TV.und, TV.und, TV.und, TV.und, TV.und, TV.und, TV.und, TV.und, TV.und, TV.und, TV.und, TV.und, TV.und, TV.und, TV.und, TV.und, TV.und, TV.und, TV.und, TV.und, TV.und, TV.und, TV.und, TV.und, TV.und, TV.und, TV.und, TV.und, TV.und, TV.und, TV.und, TV.und, TV.und, TV.und, TV.und, TV.und, TV.und, TV.und, TV.und, TV.und, TV.und, TV.und, TV.und, TV.und, TV.und, TV.und] [(Ob.g 33 [(AV.fz (FV.int .i64 a0)), (AV.fz (FV.str a1)), (AV.fz (FV.bool a2)), (AV.fz (FV.sl 1 a3)), (AV.fz (FV.sl 6 a4)), (AV.fz (FV.int .i64 a5))]), (Ob.g 33 [(AV.fz (FV.int .i64 b0)), (AV.fz (FV.str b1)), (AV.fz (FV.bool b2)), (AV.fz (FV.sl 1 b3)), (AV.fz (FV.sl 6 b4)), (AV.fz (FV.int .i64 b5))])])
def ref02_Same_L0 (R : TV → List Ob → Prop) (a0 : Int) (a1 : ByteArray) (a2 : Bool) (a3 : LL) (a4 : LL) (a5 : Int) (b0 : Int) (b1 : ByteArray) (b2 : Bool) (b3 : LL) (b4 : LL) (b5 : Int) (i : Int) : Prop := LoopAt Tryz.prog (modeOf [] []) ref02_Same_lv Tryz.f19 none R [1, 1, 0, 1, 0] (ref02_Same_S0 a0 a1 a2 a3 a4 a5 b0 b1 b2 b3 b4 b5 i)
def ref02_Same_R0 (R : TV → List Ob → Prop) (a0 : Int) (a1 : ByteArray) (a2 : Bool) (a3 : LL) (a4 : LL) (a5 : Int) (b0 : Int) (b1 : ByteArray) (b2 : Bool) (b3 : LL) (b4 : LL) (b5 : Int) (i : Int) : Prop :=
 ((((decide (i < (((List.length a4) : Nat) : Int))) = true) → (((0 : Int) ≤ i) ∧ (∃ n8 : Int, (∃ s4 : ByteArray, (∃ b7 : Bool, (∃ es8 : LL, (∃ es9 : LL, (∃ n9 : Int, (((a4)[(Int.toNat i)]? = (some [(FV.int .i64 n8), (FV.str s4), (FV.bool b7), (FV.sl 1 es8), (FV.sl 6 es9), (FV.int .i64 n9)])) ∧ (((0 : Int) ≤ i) ∧ (∃ n10 : Int, (∃ s5 : ByteArray, (∃ b8 : Bool, (∃ es10 : LL, (∃ es11 : LL, (∃ n11 : Int, (((b4)[(Int.toNat i)]? = (some [(FV.int .i64 n10), (FV.str s5), (FV.bool b8), (FV.sl 1 es10), (FV.sl 6 es11), (FV.int .i64 n11)])) ∧ (∃ b9 : Bool, ((Fn Tryz.prog 19 [(TV.agg [(AV.fz (FV.int .i64 n8)), (AV.fz (FV.str s4)), (AV.fz (FV.bool b7)), (AV.fz (FV.sl 1 es8)), (AV.fz (FV.sl 6 es9)), (AV.fz (FV.int .i64 n9))]), (TV.agg [(AV.fz (FV.int .i64 n10)), (AV.fz (FV.str s5)), (AV.fz (FV.bool b8)), (AV.fz (FV.sl 1 es10)), (AV.fz (FV.sl 6 es11)), (AV.fz (FV.int .i64 n11))])] [] (TV.one (AV.fz (FV.bool b9))) []) ∧ ((((Bool.not b9) = true) → (R (TV.one (AV.fz (FV.bool false))) [])) ∧ (((Bool.not b9) = false) → (ref02_Same_L0 R a0 a1 a2 a3 a4 a5 b0 b1 b2 b3 b4 b5 (IntKind.wrap .i64 (i + 1)))))))))))))))))))))))) ∧ (((decide (i < (((List.length a4) : Nat) : Int))) = false) → (R (TV.one (AV.fz (FV.bool true))) [])))
theorem ref02_Same_l0 {R : TV → List Ob → Prop} {a0 : Int} {a1 : ByteArray} {a2 : Bool} {a3 : LL} {a4 : LL} {a5 : Int} {b0 : Int} {b1 : ByteArray} {b2 : Bool} {b3 : LL} {b4 : LL} {b5 : Int} {i : Int} (h : ref02_Same_R0 R a0 a1 a2 a3 a4 a5 b0 b1 b2 b3 b4 b5 i) : ref02_Same_L0 R a0 a1 a2 a3 a4 a5 b0 b1 b2 b3 b4 b5 i :=
 LoopAt.by_tr (by kernel_rfl) (by kernel_rfl) h
def ref02_Same_H (R : TV → List Ob → Prop) (a0 : Int) (a1 : ByteArray) (a2 : Bool) (a3 : LL) (a4 : LL) (a5 : Int) (b0 : Int) (b1 : ByteArray) (b2 : Bool) (b3 : LL) (b4 : LL) (b5 : Int) : Prop :=
 ((((a0 != b0) = true) → (R (TV.one (AV.fz (FV.bool false))) [])) ∧ (((a0 != b0) = false) → ((((Bool.not ((ByteArray.toList a1) == (ByteArray.toList b1))) = true) → (R (TV.one (AV.fz (FV.bool false))) [])) ∧ (((Bool.not ((ByteArray.toList a1) == (ByteArray.toList b1))) = false) → (∃ b7 : Bool, ((Fn Tryz.prog 48 [(TV.agg [(AV.fz (FV.bool a2)), (AV.fz (FV.sl 1 a3))]), (TV.agg [(AV.fz (FV.bool b2)), (AV.fz (FV.sl 1 b3))])] [] (TV.one (AV.fz (FV.bool b7))) []) ∧ ((((Bool.not b7) = true) → (R (TV.one (AV.fz (FV.bool false))) [])) ∧ (((Bool.not b7) = false) → (((((((List.length a4) : Nat) : Int) != (((List.length b4) : Nat) : Int)) = true) → (R (TV.one (AV.fz (FV.bool false))) [])) ∧ ((((((List.length a4) : Nat) : Int) != (((List.length b4) : Nat) : Int)) = false) → (ref02_Same_L0 R a0 a1 a2 a3 a4 a5 b0 b1 b2 b3 b4 b5 0)))))))))))
theorem ref02_Same_fn (a0 : Int) (a1 : ByteArray) (a2 : Bool) (a3 : LL) (a4 : LL) (a5 : Int) (b0 : Int) (b1 : ByteArray) (b2 : Bool) (b3 : LL) (b4 : LL) (b5 : Int) {r : TV} {h : List Ob} (H : ref02_Same_H (fun r' h' => r' = r ∧ h' = h) a0 a1 a2 a3 a4 a5 b0 b1 b2 b3 b4 b5) : Fn Tryz.prog 19 [(TV.agg [(AV.fz (FV.int .i64 a0)), (AV.fz (FV.str a1)), (AV.fz (FV.bool a2)), (AV.fz (FV.sl 1 a3)), (AV.fz (FV.sl 6 a4)), (AV.fz (FV.int .i64 a5))]), (TV.agg [(AV.fz (FV.int .i64 b0)), (AV.fz (FV.str b1)), (AV.fz (FV.bool b2)), (AV.fz (FV.sl 1 b3)), (AV.fz (FV.sl 6 b4)), (AV.fz (FV.int .i64 b5))])] [] r h :=
 Fn.by_tr (M := (modeOf [] [])) (lv := ref02_Same_lv) (own := none) (F := Tryz.f19) (by kernel_rfl) (by kernel_rfl) (by first | decide | simp) (fun _ _ h => h) (by kernel_rfl) H
end
section
def slices_ContainsFunc_int_int_lv : List Nat → Keep := lvOf []
def slices_ContainsFunc_int_int_H (R : TV → List Ob → Prop) (s : List (List FV)) (f : FV) : Prop :=
 (∃ n1 : Int, ((Fn Tryz.prog 62 [(TV.one (AV.fz (FV.sl 1 s))), (TV.one (AV.fz f))] [] (TV.one (AV.fz (FV.int .i64 n1))) []) ∧ (R (TV.one (AV.fz (FV.bool (decide ((0 : Int) ≤ n1))))) [])))
theorem slices_ContainsFunc_int_int_fn (s : LL) (f : FV) {r : TV} {h : List Ob} (H : slices_ContainsFunc_int_int_H (fun r' h' => r' = r ∧ h' = h) s f) : Fn Tryz.prog 55 [(TV.one (AV.fz (FV.sl 1 s))), (TV.one (AV.fz f))] [] r h :=
 Fn.by_tr (M := (modeOf [] [])) (lv := slices_ContainsFunc_int_int_lv) (own := none) (F := Tryz.f55) (by kernel_rfl) (by kernel_rfl) (by first | decide | simp) (fun _ _ h => h) (by kernel_rfl) H
def ixEnds_lv : List Nat → Keep := lvOf [([0, 1, 0, 1], ⟨387, 0, [], false, false⟩)]
def ixEnds_S0 (s : LL) (i : Int) : St := (St.mk [(TV.one (AV.fz (FV.sl 1 s))), (TV.one (AV.fz (FV.fn 104 []))), TV.und, TV.und, TV.und, TV.und, TV.und, (TV.one (AV.fz (FV.int .i64 (((List.length s) : Nat) : Int)))), (TV.one (AV.fz (FV.int .i64 i))), TV.und, TV.und, TV.und, TV.und, TV.und, TV.und, TV.und, TV.und, TV.und, TV.und] [])
def ixEnds_L0 (R : TV → List Ob → Prop) (s : LL) (i : Int) : Prop := LoopAt Tryz.prog (modeOf [] []) ixEnds_lv Tryz.f62 none R [1, 0, 1, 0] (ixEnds_S0 s i)
def ixEnds_R0 (R : TV → List Ob → Prop) (s : List (List FV)) (i : Int) : Prop :=
 ((((decide (i < (((List.length s) : Nat) : Int))) = true) → (((0 : Int) ≤ i) ∧ (∃ n2 : Int, (((s)[(Int.toNat i)]? = (some [(FV.int .i64 n2)])) ∧ (∃ b2 : Bool, ((Fn Tryz.prog 104 [(TV.one (AV.fz (FV.int .i64 n2)))] [] (TV.one (AV.fz (FV.bool b2))) []) ∧ (((b2 = true) → (R (TV.one (AV.fz (FV.int .i64 i))) [])) ∧ ((b2 = false) → (ixEnds_L0 R s (IntKind.wrap .i64 (i + 1))))))))))) ∧ (((decide (i < (((List.length s) : Nat) : Int))) = false) → (R (TV.one (AV.fz (FV.int .i64 (-1)))) [])))
theorem ixEnds_l0 {R : TV → List Ob → Prop} {s : List (List FV)} {i : Int} (h : ixEnds_R0 R s i) : ixEnds_L0 R s i :=
 LoopAt.by_tr (by kernel_rfl) (by kernel_rfl) h
def ixEnds_H (R : TV → List Ob → Prop) (s : List (List FV)) : Prop :=
 (ixEnds_L0 R s 0)
theorem ixEnds_fn (s : LL) {r : TV} {h : List Ob} (H : ixEnds_H (fun r' h' => r' = r ∧ h' = h) s) : Fn Tryz.prog 62 [(TV.one (AV.fz (FV.sl 1 s))), (TV.one (AV.fz (FV.fn 104 [])))] [] r h :=
 Fn.by_tr (M := (modeOf [] [])) (lv := ixEnds_lv) (own := none) (F := Tryz.f62) (by kernel_rfl) (by kernel_rfl) (by first | decide | simp) (fun _ _ h => h) (by kernel_rfl) H
end
section
open Go Go.RowKit
theorem flat2 {α : Type} (f g : Nat → α) : ∀ (n : Nat), (((List.range n).map fun i => [f i, g i]).flatten).length = 2 * n ∧ ∀ i, i < n → (((List.range n).map fun i => [f i, g i]).flatten)[2 * i]? = some (f i) ∧ (((List.range n).map fun i => [f i, g i]).flatten)[2 * i + 1]? = some (g i)
 | 0 => ⟨rfl, fun i h => by omega⟩
 | n + 1 => by
  obtain ⟨h1, h2⟩ := flat2 f g n
  rw [List.range_succ, List.map_append, List.flatten_append]
  refine ⟨by rw [List.length_append, h1]; simp; omega, fun i hi => ?_⟩
  by_cases h : i < n
  ·rw [List.getElem?_append_left (by omega), List.getElem?_append_left (by omega)]
   exact h2 i h
  ·have : i = n := by omega
   subst this
   rw [List.getElem?_append_right (by omega), List.getElem?_append_right (by omega), h1]
   simp
theorem utf_tabs {w : World} (h : Glob w) : Lib.Utf8Tabs 2 3 w := by
 constructor
 ·intro c hc
  have h1 := h (2, (List.range 256).map fun c => FV.int .u8 ((Go.Lib.firstT c : Nat) : Int)) (by simp [tabs])
  obtain ⟨cs, t, z, h2, h3, h4⟩ := h1
  obtain ⟨v, hv, hr⟩ := h4 c (.int .u8 ((Go.Lib.firstT c : Nat) : Int)) (by simp [hc])
  cases hr
  simp only at h2
  simp [World.cell?, h2, hv]
 ·intro i hi
  have h1 := h (3, ((List.range 16).map fun i => [FV.int .u8 ((Go.Lib.accLo i : Nat) : Int), FV.int .u8 ((Go.Lib.accHi i : Nat) : Int)]).flatten) (by simp [tabs])
  obtain ⟨cs, t, z, h2, h3, h4⟩ := h1
  have hf := (flat2 (fun i => FV.int .u8 ((Go.Lib.accLo i : Nat) : Int)) (fun i => FV.int .u8 ((Go.Lib.accHi i : Nat) : Int)) 16).2 i hi
  obtain ⟨v, hv, hr⟩ := h4 (2 * i) _ hf.1
  obtain ⟨v', hv', hr'⟩ := h4 (2 * i + 1) _ hf.2
  cases hr; cases hr'
  simp only at h2
  simp [World.cell?, h2, hv, hv']
def chN (n b0 b1 b2 b3 : Int) : Int × Int :=
 if b0 < 128 then (b0, 1)
 else if 192 ≤ b0 ∧ b0 < 224 then (if 2 ≤ n ∧ 128 ≤ b1 ∧ b1 < 192 ∧ 128 ≤ (b0 - 192) * 64 + b1 - 128 then ((b0 - 192) * 64 + b1 - 128, 2) else (0, 0))
 else if 224 ≤ b0 ∧ b0 < 240 then
  (if 3 ≤ n ∧ 128 ≤ b1 ∧ b1 < 192 ∧ 128 ≤ b2 ∧ b2 < 192 ∧ 2048 ≤ ((b0 - 224) * 64 + b1 - 128) * 64 + b2 - 128 ∧ ¬ (55296 ≤ ((b0 - 224) * 64 + b1 - 128) * 64 + b2 - 128 ∧ ((b0 - 224) * 64 + b1 - 128) * 64 + b2 - 128 ≤ 57343)
   then (((b0 - 224) * 64 + b1 - 128) * 64 + b2 - 128, 3) else (0, 0))
 else if 240 ≤ b0 ∧ b0 < 248 then
  (if 4 ≤ n ∧ 128 ≤ b1 ∧ b1 < 192 ∧ 128 ≤ b2 ∧ b2 < 192 ∧ 128 ≤ b3 ∧ b3 < 192 ∧ 65536 ≤ (((b0 - 240) * 64 + b1 - 128) * 64 + b2 - 128) * 64 + b3 - 128 ∧ (((b0 - 240) * 64 + b1 - 128) * 64 + b2 - 128) * 64 + b3 - 128 ≤ 1114111
   then ((((b0 - 240) * 64 + b1 - 128) * 64 + b2 - 128) * 64 + b3 - 128, 4) else (0, 0))
 else (0, 0)
def ch1 (l : List Int) : Int × Int := chN l.length (rd l 0) (rd l 1) (rd l 2) (rd l 3)
theorem decodeN_chN' (n b0 b1 b2 b3 : Nat) (h0 : b0 < 256) (h1 : b1 < 256) (h2 : b2 < 256) (h3 : b3 < 256) (p : Nat × Nat) (hp : Lib.decodeN n b0 b1 b2 b3 = p) (q : Int × Int) (hq : chN n b0 b1 b2 b3 = q) :
  (q.1 = 0 ∧ q.2 = 0 ∧ p.1 = 65533 ∧ p.2 = 1) ∨ (q.1 = (p.1 : Int) ∧ q.2 = (p.2 : Int) ∧ ¬ (p.1 = 65533 ∧ p.2 < 2)) := by
 unfold Lib.decodeN at hp
 unfold chN at hq
 repeat' split at hp
 all_goals subst hp
 all_goals repeat' split at hq
 all_goals subst hq
 all_goals first | (exfalso; omega) | (refine .inl ⟨rfl, rfl, rfl, rfl⟩) | (refine .inr ⟨?_, ?_, ?_⟩ <;> simp only <;> omega)
theorem decodeN_chN (n b0 b1 b2 b3 : Nat) (h0 : b0 < 256) (h1 : b1 < 256) (h2 : b2 < 256) (h3 : b3 < 256) :
  (chN n b0 b1 b2 b3 = (0, 0) ∧ Lib.decodeN n b0 b1 b2 b3 = (65533, 1)) ∨ (chN n b0 b1 b2 b3 = (((Lib.decodeN n b0 b1 b2 b3).1 : Int), ((Lib.decodeN n b0 b1 b2 b3).2 : Int)) ∧ ¬ ((Lib.decodeN n b0 b1 b2 b3).1 = 65533 ∧ (Lib.decodeN n b0 b1 b2 b3).2 < 2)) := by
 rcases decodeN_chN' n b0 b1 b2 b3 h0 h1 h2 h3 _ rfl _ rfl with ⟨e1, e2, e3, e4⟩ | ⟨e1, e2, e3⟩
 ·exact .inl ⟨Prod.ext e1 e2, Prod.ext e3 e4⟩
 ·exact .inr ⟨Prod.ext e1 e2, e3⟩
theorem rd_byte {l : List Int} (h : Bytes l) (i : Nat) : 0 ≤ rd l i ∧ rd l i < 256 := by
 by_cases hi : i < l.length
 ·rw [rd_at l i hi]; exact h _ (List.getElem_mem _)
 ·unfold rd; rw [List.getD_eq_getElem?_getD, List.getElem?_eq_none (by omega)]; simp
theorem get_of {l : List Int} (h : Bytes l) (i : Nat) : ((bytesOf l).get! i).toNat = (rd l i).toNat := by
 have e : (bytesOf l).get! i = ((bytesOf l).data[i]?).getD default := by
  show (bytesOf l).data[i]! = _
  rw [getElem!_def]
  cases (bytesOf l).data[i]? <;> rfl
 rw [e]
 by_cases hi : i < l.length
 ·obtain ⟨c, hc, hcn⟩ := byte_at h hi
  rw [hc, Option.getD_some, ← hcn]; rfl
 ·have hn : (bytesOf l).data[i]? = none := by
   rw [Array.getElem?_eq_none]
   have h1 := size_of l
   have h2 : (bytesOf l).data.size = (bytesOf l).size := rfl
   omega
  rw [hn]
  unfold rd; rw [List.getD_eq_getElem?_getD, List.getElem?_eq_none (by omega)]; rfl
def deR (l : List Int) : Int := ((Lib.decodeGo (bytesOf l)).1 : Int)
def deN (l : List Int) : Int := ((Lib.decodeGo (bytesOf l)).2 : Int)
theorem de_ch1 {l : List Int} (h : Bytes l) (hne : l ≠ []) : (ch1 l = (0, 0) ∧ deR l = 65533 ∧ deN l = 1) ∨ (ch1 l = (deR l, deN l) ∧ ¬ (deR l = 65533 ∧ deN l < 2)) := by
 have hs : (bytesOf l).size = l.length := size_of l
 have hl : l.length ≠ 0 := fun h => hne (List.length_eq_zero_iff.1 h)
 have e : Lib.decodeGo (bytesOf l) = Lib.decodeN l.length (rd l 0).toNat (rd l 1).toNat (rd l 2).toNat (rd l 3).toNat := by
  unfold Lib.decodeGo
  rw [if_neg (by omega), Lib.decode_at, hs]
  simp only [Nat.sub_zero, Nat.zero_add, get_of h]
 unfold deR deN ch1
 rw [e]
 have b0 := rd_byte h 0; have b1 := rd_byte h 1; have b2 := rd_byte h 2; have b3 := rd_byte h 3
 have k := decodeN_chN l.length (rd l 0).toNat (rd l 1).toNat (rd l 2).toNat (rd l 3).toNat (by omega) (by omega) (by omega) (by omega)
 rw [Int.toNat_of_nonneg b0.1, Int.toNat_of_nonneg b1.1, Int.toNat_of_nonneg b2.1, Int.toNat_of_nonneg b3.1] at k
 rcases k with ⟨k1, k2⟩ | ⟨k1, k2⟩
 ·left
  exact ⟨k1, by rw [k2]; rfl, by rw [k2]; rfl⟩
 ·right
  exact ⟨k1, by omega⟩
theorem chN_bounds (n b0 b1 b2 b3 : Int) (h0 : 0 ≤ b0) (h1 : b0 < 256) (hn : 1 ≤ n) : 0 ≤ (chN n b0 b1 b2 b3).1 ∧ (chN n b0 b1 b2 b3).1 ≤ 1114111 ∧ 0 ≤ (chN n b0 b1 b2 b3).2 ∧ (chN n b0 b1 b2 b3).2 ≤ n ∧ (chN n b0 b1 b2 b3).2 ≤ 4 := by
 unfold chN
 repeat' split
 all_goals (simp only; omega)
theorem ch1_bounds {l : List Int} (h : Bytes l) (hne : l ≠ []) : 0 ≤ (ch1 l).1 ∧ (ch1 l).1 ≤ 1114111 ∧ 0 ≤ (ch1 l).2 ∧ (ch1 l).2 ≤ l.length ∧ (ch1 l).2 ≤ 4 := by
 have hl : l.length ≠ 0 := fun h => hne (List.length_eq_zero_iff.1 h)
 have b0 := rd_byte h 0
 exact chN_bounds _ _ _ _ _ b0.1 b0.2 (by omega)
theorem DecodeRune_fn {l : List Int} (h : Bytes l) (hne : l ≠ []) : Fn Tryz.prog 61 [fzS .u8 l] [] (.tup [(false, [.fz (.int .i32 (deR l))]), (false, [.fz (.int .i64 (deN l))])]) [] := by
 intro ext w locs vals H hsz hrep
 obtain ⟨v, hv, hr⟩ := hrep 0 _ rfl
 have e : vals = #[v] := by
  apply Array.ext
  ·simpa using hsz
  ·intro i h1 h2
   have : i = 0 := by simp at h2; omega
   subst this
   rw [Array.getElem?_eq_getElem h1] at hv
   simpa using hv
 subst e
 replace hr : RF w (Bar ext locs []) (.sl 1 (ints .u8 l)) v := hr
 clear hrep hsz hv
 generalize hL : ints .u8 l = L at hr
 cases hr with
 | slN sz a c => exact absurd (ints_eq_nil.1 hL) hne
 | sl es b off c sz cv hb hc hsz hcell hr =>
  subst hL
  have hs : (bytesOf l).size = (ints .u8 l).length := by rw [size_of, ints_len]
  have key := Tryz.utf8_DecodeRune (bytesOf l) b off c w (utf_tabs H.glob) (fun j hj => by
   rw [size_of] at hj
   have hg : (ints .u8 l)[j]? = some [.int .u8 (rd l j)] := by simp [ints, rd_at l j hj, hj]
   have h1 := hcell j _ 0 _ hg rfl
   have h2 := hr j _ 0 _ hg rfl
   rw [Nat.mul_one, Nat.add_zero] at h1
   rw [h1]
   generalize cv j 0 = u at h2
   cases h2
   rw [get_of h, Int.toNat_of_nonneg (rd_byte h j).1])
  rw [hs] at key
  refine key.mono ?_
  rintro e w' ⟨rfl, hb⟩
  refine ⟨.tuple #[.int .i32 (deR l), .int .i64 (deN l)], locs, rfl, H.below hb, #[.int .i32 (deR l), .int .i64 (deN l)], rfl, rfl, fun i b' cs hi => ?_⟩
  match i with
  | 0 =>
   cases hi
   refine ⟨.int .i32 (deR l), rfl, [.int .i32 (deR l)], rfl, rfl, fun _ => rfl, fun j x hj => ?_⟩
   cases j with
   | zero => cases hj; exact ⟨_, rfl, .int _ _⟩
   | succ j => simp at hj
  | 1 =>
   cases hi
   refine ⟨.int .i64 (deN l), rfl, [.int .i64 (deN l)], rfl, rfl, fun _ => rfl, fun j x hj => ?_⟩
   cases j with
   | zero => cases hj; exact ⟨_, rfl, .int _ _⟩
   | succ j => simp at hj
  | i + 2 => simp at hi
def chs : Nat → List Int → Nat → List Int → List Int × Int
 | 0, _, _, _ => ([], -1)
 | f + 1, l, at_, acc => if l.length ≤ at_ then (acc, -1) else if (ch1 (l.drop at_)).2 = 0 then ([], at_) else chs f l (at_ + (ch1 (l.drop at_)).2.toNat) (acc ++ [(ch1 (l.drop at_)).1])
def chars (l : List Int) : List Int × Int := chs (l.length + 1) l 0 []
theorem drop_bytes {l : List Int} (h : Bytes l) (n : Nat) : Bytes (l.drop n) := fun x hx => h x (List.mem_of_mem_drop hx)
theorem w32_in {n : Int} (h0 : -2147483648 ≤ n) (h1 : n ≤ 2147483647) : IntKind.wrap .i32 n = n := IntWalk.i32_in n ⟨h0, h1⟩
theorem decode_loop (l : List Int) (h : Bytes l) (hlen : l.length ≤ 65536) (R : TV → List Ob → Prop)
  (hok : (chars l).2 = -1 → R (.tup [(false, [.fz (.sl 1 (ints .i64 (chars l).1))]), (false, [.fz (.int .i64 0)]), (false, [.fz (.int .i64 0)])]) [])
  (hbad : (chars l).2 ≠ -1 → R (.tup [(false, [.fz (.sl 1 ([] : List (List FV)))]), (false, [.fz (.int .i64 (chars l).2)]), (false, [.fz (.int .i64 4)])]) []) :
  ∀ (f at_ : Nat) (acc : List Int), at_ ≤ l.length → l.length - at_ < f → acc.length ≤ at_ → chs f l at_ acc = chars l → utf_Decode_L0 R (ints .u8 l) at_ (ints .i64 acc)
 | 0, at_, acc, h1, h2, h3, h4 => by omega
 | f + 1, at_, acc, h1, h2, h3, h4 => by
  refine utf_Decode_l0 ?_
  unfold utf_Decode_R0
  unfold chs at h4
  simp only [ints_len, ints_app, ints_snoc, ints_take, ints_drop, ints_set, ints_rep, ints_one, ex_rd, dec_t, dec_f, beq_t, beq_f, bne_t, bne_f, not_t, not_f, List.length_set, List.length_append, List.length_cons, List.length_nil, List.length_take, List.length_drop, List.length_replicate, Int.toNat_natCast, List.nil_append, Bool.not_true, Bool.not_false, Wk_nil, Wk_cons, wk1_same, wk1_f, and_true, true_and, Bool.false_eq_true, Bool.true_eq_false, false_implies, forall_const]
  by_cases hat : l.length ≤ at_
  ·rw [if_pos hat] at h4
   refine ⟨fun h => by omega, fun _ => ?_⟩
   rw [← h4] at hok
   exact hok rfl
  ·rw [if_neg hat] at h4
   have hne : l.drop at_ ≠ [] := fun e => by have := congrArg List.length e; simp at this; omega
   have hb := drop_bytes h at_
   have hd := DecodeRune_fn hb hne
   have hc := de_ch1 hb hne
   have hbd := ch1_bounds hb hne
   rw [List.length_drop] at hbd
   refine ⟨fun _ => ⟨by omega, _, _, hd, ?_⟩, fun h => by omega⟩
   rcases hc with ⟨c1, c2, c3⟩ | ⟨c1, c2⟩
   ·rw [c1, if_pos rfl] at h4
    rw [← h4] at hbad
    refine ⟨fun _ => ⟨fun _ => hbad (by simp only; omega), fun h => by omega⟩, fun h => absurd c2 h⟩
   ·have g1 : (ch1 (l.drop at_)).1 = deR (l.drop at_) := by rw [c1]
    have g2 : (ch1 (l.drop at_)).2 = deN (l.drop at_) := by rw [c1]
    have hn0 : (ch1 (l.drop at_)).2 ≠ 0 := by
     intro h0
     rw [g1, g2] at *
     have hd0 : deN (l.drop at_) = 0 := h0
     have hg : 1 ≤ deN (l.drop at_) := by
      have := hbd
      unfold deN
      unfold deN at hd0
      have hs : (bytesOf (l.drop at_)).size = (l.drop at_).length := size_of _
      have hl : (l.drop at_).length ≠ 0 := fun h => hne (List.length_eq_zero_iff.1 h)
      unfold Lib.decodeGo at hd0 ⊢
      rw [if_neg (by omega), Lib.decode_at] at hd0 ⊢
      revert hd0
      unfold Lib.decodeN
      repeat' split
      all_goals (simp)
     omega
    rw [if_neg hn0, g1, g2] at h4
    rw [g1, g2] at hbd
    have ih := decode_loop l h hlen R hok hbad f (at_ + (deN (l.drop at_)).toNat) (acc ++ [deR (l.drop at_)]) (by omega) (by omega) (by rw [List.length_append, List.length_singleton]; omega) h4
    have e1 : IntKind.wrap .i64 (deR (l.drop at_)) = deR (l.drop at_) := w64 (by omega) (by omega)
    have e2 : IntKind.wrap .i64 ((at_ : Int) + deN (l.drop at_)) = ((at_ + (deN (l.drop at_)).toNat : Nat) : Int) := by rw [w64 (by omega) (by omega)]; omega
    rw [e1, e2]
    refine ⟨fun h65 => ⟨fun h => by omega, fun _ => ⟨by omega, ih⟩⟩, fun _ => ⟨by omega, ih⟩⟩
def decL (l : List Int) : List Int := if 65536 < l.length then [] else if (chars l).2 = -1 then (chars l).1 else []
def decA (l : List Int) : Int := if 65536 < l.length then 0 else if (chars l).2 = -1 then 0 else (chars l).2
def decE (l : List Int) : Int := if 65536 < l.length then 6 else if (chars l).2 = -1 then 0 else 4
theorem utfDecode_ok (l : List Int) (h : Bytes l) : Fn Tryz.prog 37 [fzS .u8 l] [] (.tup [(false, [.fz (.sl 1 (ints .i64 (decL l)))]), (false, [.fz (.int .i64 (decA l))]), (false, [.fz (.int .i64 (decE l))])]) [] := by
 refine utf_Decode_fn _ ?_
 unfold utf_Decode_H decL decA decE
 rw [ints_len, dec_t, dec_f]
 refine ⟨fun h1 => ?_, fun h1 => ?_⟩
 ·have hl : 65536 < l.length := by omega
  simp [if_pos hl, ints]
 ·have hl : ¬ 65536 < l.length := by omega
  simp only [if_neg hl]
  refine decode_loop l h (by omega) _ (fun h2 => ?_) (fun h2 => ?_) (l.length + 1) 0 [] (by omega) (by omega) (by simp) rfl
  ·simp [if_pos h2]
  ·simp [if_neg h2, ints]
end
section
def scalB (c : Int) : Bool := decide (0 ≤ c) && decide (c ≤ 1114111) && !(decide (55296 ≤ c) && decide (c ≤ 57343))
def utfB (c : Int) : List Int :=
 if c < 128 then [c] else if c < 2048 then [192 + c / 64, 128 + c % 64]
 else if c < 65536 then [224 + c / 4096, 128 + c / 64 % 64, 128 + c % 64]
 else [240 + c / 262144, 128 + c / 4096 % 64, 128 + c / 64 % 64, 128 + c % 64]
theorem utfB_len (c : Int) : ((utfB c).length : Int) = if c < 128 then 1 else if c < 2048 then 2 else if c < 65536 then 3 else 4 := by
 unfold utfB
 repeat' split
 all_goals rfl
theorem rd_dropN (l : List Int) (n i : Nat) : rd (l.drop n) i = rd l (n + i) := by
 unfold rd
 rw [List.getD_eq_getElem?_getD, List.getD_eq_getElem?_getD, List.getElem?_drop]
end
section
open Go Go.RowKit
def blankB (c : Int) : Bool := decide (c = 9 ∨ c = 10 ∨ c = 13 ∨ c = 32)
def endsB (c : Int) : Bool := decide ((c = 9 ∨ c = 10 ∨ c = 13 ∨ c = 32) ∨ c = 40 ∨ c = 41 ∨ c = 59 ∨ c = 34 ∨ c = 39 ∨ c = 96 ∨ c = 44)
theorem uBlank_ok (c : Int) : Fn Tryz.prog 102 [fzI .i64 c] [] (fzB (blankB c)) [] := by
 refine utf_Blank_fn _ ?_
 unfold utf_Blank_H blankB
 simp only [beq_t, beq_f]
 refine ⟨fun h => ?_, fun h => ⟨fun h2 => ?_, fun h2 => ⟨fun h3 => ?_, fun h3 => ?_⟩⟩⟩
 ·simp [h]
 ·simp [h2]
 ·simp [h3]
 ·simp [h, h2, h3]
  rw [Bool.eq_iff_iff]; simp
theorem IndexByte_fn (s : ByteArray) (c : Int) : Fn Tryz.prog 131 [.one (.fz (.str s)), fzI .u8 c] [] (fzI .i64 (Lib.indexByte s.data.toList c.toNat.toUInt8)) [] :=
 Fn.of_below [.str s, .int .u8 c] rfl rfl fun w hg => (Tryz.strings_IndexByte s c w).mono fun e w' ⟨h1, h2⟩ => ⟨h1, h2 ▸ Below.refl _ _⟩
set_option maxRecDepth 100000 in
theorem ends_tab : ∀ c : Fin 128, (decide (0 ≤ Lib.indexByte (ByteArray.mk #[40, 41, 59, 34, 39, 96, 44]).data.toList (c.val : Nat).toUInt8)) = decide ((c.val : Int) = 40 ∨ (c.val : Int) = 41 ∨ (c.val : Int) = 59 ∨ (c.val : Int) = 34 ∨ (c.val : Int) = 39 ∨ (c.val : Int) = 96 ∨ (c.val : Int) = 44) := by decide
theorem uEnds_ok (c : Int) : Fn Tryz.prog 104 [fzI .i64 c] [] (fzB (endsB c)) [] := by
 refine utf_Ends_fn _ ?_
 unfold utf_Ends_H endsB
 refine ⟨_, uBlank_ok c, ?_⟩
 unfold blankB
 simp only [dec_t, dec_f]
 refine ⟨fun h => ?_, fun h => ⟨fun h2 => ⟨fun h3 => ?_, fun h3 => ?_⟩, fun h2 => ?_⟩⟩
 ·simp [h]
 ·rw [wu8 (by omega) (by omega)]
  refine ⟨_, IndexByte_fn _ c, ?_⟩
  have := ends_tab ⟨c.toNat, by omega⟩
  simp only at this
  rw [this, show ((c.toNat : Nat) : Int) = c by omega]
  simp [h]
 ·have : ¬ (c = 40 ∨ c = 41 ∨ c = 59 ∨ c = 34 ∨ c = 39 ∨ c = 96 ∨ c = 44) := by omega
  simp [h, this]
 ·have : ¬ (c = 40 ∨ c = 41 ∨ c = 59 ∨ c = 34 ∨ c = 39 ∨ c = 96 ∨ c = 44) := by omega
  simp [h, this]
theorem ixEnds_loop (xs : List Int) (hl : xs.length ≤ 1000000000) :
  ∀ (d j : Nat), j + d = xs.length → (xs.take j).any endsB = false → ∃ n : Int, (decide (0 ≤ n) = xs.any endsB) ∧ ∀ R : TV → List Ob → Prop, R (fzI .i64 n) [] → ixEnds_L0 R (ints .i64 xs) j
 | 0, j, hj, h => by
  refine ⟨-1, ?_, fun R hR => ixEnds_l0 ?_⟩
  ·rw [List.take_of_length_le (by omega)] at h
   rw [h]; simp
  ·unfold ixEnds_R0
   rw [ints_len, dec_t, dec_f]
   exact ⟨fun h => by omega, fun _ => hR⟩
 | d + 1, j, hj, h => by
  have hF := uEnds_ok (rd xs j)
  have hg : (ints .i64 xs)[j]? = some [.int .i64 (rd xs j)] := by simp [ints, rd_at xs j (by omega), show j < xs.length by omega]
  by_cases hpx : endsB (rd xs j) = true
  ·refine ⟨j, ?_, fun R hR => ixEnds_l0 ?_⟩
   ·have : xs.any endsB = true := List.any_eq_true.2 ⟨_, List.getElem_mem (show j < xs.length by omega), by rw [← rd_at xs j (by omega)]; exact hpx⟩
    rw [this]; simp
   ·unfold ixEnds_R0
    rw [ints_len, dec_t, dec_f]
    refine ⟨fun _ => ⟨by omega, _, hg, _, hF, fun _ => hR, fun h => ?_⟩, fun h => by omega⟩
    rw [hpx] at h; cases h
  ·obtain ⟨q, h1, h2⟩ := ixEnds_loop xs hl d (j + 1) (by omega) (by
    rw [List.take_succ_eq_append_getElem (by omega), List.any_append, h, ← rd_at xs j (by omega)]
    simpa using hpx)
   refine ⟨q, h1, fun R hR => ixEnds_l0 ?_⟩
   unfold ixEnds_R0
   have e : IntKind.wrap .i64 ((j : Int) + 1) = ((j + 1 : Nat) : Int) := w64 (by omega) (by omega)
   rw [ints_len, dec_t, dec_f, e]
   refine ⟨fun _ => ⟨by omega, _, hg, _, hF, fun h => absurd h hpx, fun _ => h2 R hR⟩, fun h => by omega⟩
theorem anyEnds_ok (xs : List Int) (hl : xs.length ≤ 1000000000) :
  Fn Tryz.prog 55 [fzS .i64 xs, .one (.fz (.fn 104 []))] [] (fzB (xs.any endsB)) [] := by
 obtain ⟨n, h1, h2⟩ := ixEnds_loop xs hl xs.length 0 (by omega) (by simp)
 refine slices_ContainsFunc_int_int_fn _ _ ?_
 unfold slices_ContainsFunc_int_int_H
 exact ⟨n, ixEnds_fn _ (h2 _ ⟨rfl, rfl⟩), by rw [h1], rfl⟩
def digB (T : List Int) (i : Nat) : Bool := decide (i < T.length ∧ 48 ≤ rd T i ∧ rd T i ≤ 57)
theorem tdigit_ok (T : List Int) (hT : Bytes T) (i : Nat) : Fn Tryz.prog 139 [.one (.fz (.str (bytesOf T))), fzI .i64 i] [] (fzB (digB T i)) [] := by
 refine token_digit_fn _ _ ?_
 unfold token_digit_H digB
 rw [size_of, dec_t, dec_f, Int.toNat_natCast]
 refine ⟨fun h => ?_, fun h => ?_⟩
 ·have hi : i < T.length := by omega
  obtain ⟨c, hc, hcn⟩ := byte_at hT hi
  refine ⟨by omega, c, hc, ?_⟩
  rw [hcn, dec_t, dec_f]
  refine ⟨fun h2 => ⟨by omega, c, hc, ?_⟩, fun h2 => ?_⟩
  ·rw [hcn]; simp [hi, h2]
  ·have : ¬ (i < T.length ∧ 48 ≤ rd T i ∧ rd T i ≤ 57) := by omega
   simp [this]
 ·have : ¬ (i < T.length ∧ 48 ≤ rd T i ∧ rd T i ≤ 57) := by omega
  simp [this]
theorem hasPref (T : List Int) (hT : Bytes T) (c : Nat) (hc : c < 256) : Lib.hasPrefix (bytesOf T).data.toList [UInt8.ofNat c] = decide (T.head? = some (c : Int)) := by
 rw [data_of]
 cases T with
 | nil => simp [Lib.hasPrefix]
 | cons x T =>
  have hx := hT x List.mem_cons_self
  have h3 := u8_back hx.1 hx.2
  have hcc : (UInt8.ofNat c).toNat = c := by rw [UInt8.toNat_ofNat']; omega
  unfold Lib.hasPrefix
  rw [Bool.eq_iff_iff]
  simp [← UInt8.toNat_inj]
  omega
theorem HasPrefix_fn (s p : ByteArray) : Fn Tryz.prog 138 [.one (.fz (.str s)), .one (.fz (.str p))] [] (fzB (Lib.hasPrefix s.data.toList p.data.toList)) [] :=
 Fn.of_below [.str s, .str p] rfl rfl fun w hg => (Tryz.strings_HasPrefix s p w).mono fun e w' ⟨h1, h2⟩ => ⟨h1, h2 ▸ Below.refl _ _⟩
def symP (T : List Int) : Prop := T ≠ [] ∧ T ≠ [46] ∧ T.length ≤ 64 ∧ (chars T).2 = -1 ∧ (chars T).1.any endsB = false ∧ rd T 0 ≠ 35 ∧ digB T 0 = false ∧ ¬ ((rd T 0 = 43 ∨ rd T 0 = 45) ∧ digB T 1 = true)
def trueP (T : List Int) : Prop := T = [35, 116] ∨ T = [35, 116, 114, 117, 101]
def falseP (T : List Int) : Prop := T = [35, 102] ∨ T = [35, 102, 97, 108, 115, 101]
instance (T : List Int) : Decidable (symP T) := by unfold symP; infer_instance
instance (T : List Int) : Decidable (trueP T) := by unfold trueP; infer_instance
instance (T : List Int) : Decidable (falseP T) := by unfold falseP; infer_instance
abbrev atT (k : Int) (t : ByteArray) (n : Bool) (l : List Int) (b : Bool) : TV := .tup [(true, [.fz (.int .i64 k), .fz (.str t), .fz (.bool n), .fz (.sl 1 (ints .u32 l)), .fz (.sl 6 ([] : List (List FV))), .fz (.int .i64 0)]), (false, [.fz (.bool b)])]
def atomK (T : List Int) : Int := if trueP T then 8 else if falseP T then 9 else if ptB (pRest T) = true then 7 else if symP T then 4 else 0
def atomS (T : List Int) : List Int := if atomK T = 4 then T else []
def atomN (T : List Int) : Bool := if atomK T = 7 then ptS (pNeg T) (pRest T) else false
def atomL (T : List Int) : List Int := if atomK T = 7 then ptL (pRest T) else []
abbrev atomT (T : List Int) : TV := atT (atomK T) (bytesOf (atomS T)) (atomN T) (atomL T) (decide (atomK T ≠ 0))
theorem atomT_8 {T : List Int} (h : trueP T) : atomT T = atT 8 (ByteArray.mk #[]) false [] true := by
 have : atomK T = 8 := if_pos h
 unfold atomT atomS atomN atomL; rw [this]; rfl
theorem atomT_9 {T : List Int} (h : falseP T) : atomT T = atT 9 (ByteArray.mk #[]) false [] true := by
 have h1 : ¬ trueP T := by
  unfold trueP falseP at *
  rcases h with rfl | rfl <;> simp
 have : atomK T = 9 := by unfold atomK; rw [if_neg h1, if_pos h]
 unfold atomT atomS atomN atomL; rw [this]; rfl
theorem atomT_7 {T : List Int} (h1 : ¬ trueP T) (h2 : ¬ falseP T) (h3 : ptB (pRest T) = true) : atomT T = atT 7 (ByteArray.mk #[]) (ptS (pNeg T) (pRest T)) (ptL (pRest T)) true := by
 have : atomK T = 7 := by unfold atomK; rw [if_neg h1, if_neg h2, if_pos h3]
 unfold atomT atomS atomN atomL; rw [this]; rfl
theorem atomT_4 {T : List Int} (h1 : ¬ trueP T) (h2 : ¬ falseP T) (h3 : ptB (pRest T) = false) (h4 : symP T) : atomT T = atT 4 (bytesOf T) false [] true := by
 have : atomK T = 4 := by unfold atomK; rw [if_neg h1, if_neg h2, if_neg (by rw [h3]; simp), if_pos h4]
 unfold atomT atomS atomN atomL; rw [this]; rfl
theorem atomT_0 {T : List Int} (h1 : ¬ trueP T) (h2 : ¬ falseP T) (h3 : ptB (pRest T) = false) (h4 : ¬ symP T) : atomT T = atT 0 (ByteArray.mk #[]) false [] false := by
 have : atomK T = 0 := by unfold atomK; rw [if_neg h1, if_neg h2, if_neg (by rw [h3]; simp), if_neg h4]
 unfold atomT atomS atomN atomL; rw [this]; rfl
theorem decE_small {T : List Int} (h : ¬ 64 < T.length) : (decE T ≠ 0 ↔ (chars T).2 ≠ -1) ∧ ((chars T).2 = -1 → decL T = (chars T).1) := by
 unfold decE decL
 have hn : ¬ 65536 < T.length := by omega
 simp only [if_neg hn]
 by_cases h2 : (chars T).2 = -1
 ·simp [h2]
 ·simp [h2]
theorem chs_len : ∀ (f at_ : Nat) (l acc : List Int), (chs f l at_ acc).1.length ≤ acc.length + f
 | 0, at_, l, acc => by simp [chs]
 | f + 1, at_, l, acc => by
  unfold chs
  split
  ·simp only; omega
  ·split
   ·simp
   ·have := chs_len f (at_ + (ch1 (l.drop at_)).2.toNat) l (acc ++ [(ch1 (l.drop at_)).1])
    simp only [List.length_append, List.length_singleton] at this
    omega
theorem chars_len (l : List Int) : (chars l).1.length ≤ l.length + 1 := by
 have := chs_len (l.length + 1) 0 l []
 unfold chars
 simpa using this
end
section
open Go Go.RowKit
theorem atom_eqs {T : List Int} (hT : Bytes T) :
  ((ByteArray.toList (bytesOf T)) == (ByteArray.toList (ByteArray.mk #[35, 116]))) = decide (T = [35, 116]) ∧ ((ByteArray.toList (bytesOf T)) == (ByteArray.toList (ByteArray.mk #[35, 116, 114, 117, 101]))) = decide (T = [35, 116, 114, 117, 101]) ∧
  ((ByteArray.toList (bytesOf T)) == (ByteArray.toList (ByteArray.mk #[35, 102]))) = decide (T = [35, 102]) ∧ ((ByteArray.toList (bytesOf T)) == (ByteArray.toList (ByteArray.mk #[35, 102, 97, 108, 115, 101]))) = decide (T = [35, 102, 97, 108, 115, 101]) ∧
  ((ByteArray.toList (bytesOf T)) == (ByteArray.toList (ByteArray.mk #[]))) = decide (T = []) ∧ ((ByteArray.toList (bytesOf T)) == (ByteArray.toList (ByteArray.mk #[46]))) = decide (T = [46]) := by
 have b : ∀ l : List Int, (∀ x ∈ l, 0 ≤ x ∧ x < 256) → Bytes l := fun l h => h
 refine ⟨eq_bytes (m := [35, 116]) hT (b _ (by decide)), eq_bytes (m := [35, 116, 114, 117, 101]) hT (b _ (by decide)), eq_bytes (m := [35, 102]) hT (b _ (by decide)), eq_bytes (m := [35, 102, 97, 108, 115, 101]) hT (b _ (by decide)), eq_bytes (m := []) hT (b _ (by decide)), eq_bytes (m := [46]) hT (b _ (by decide))⟩
theorem byte0 {T : List Int} (hT : Bytes T) (hne : T ≠ []) : ∃ c : UInt8, (ByteArray.data (bytesOf T))[Int.toNat 0]? = some c ∧ ((c.toNat : Nat) : Int) = rd T 0 :=
 byte_at hT (List.length_pos_iff.2 hne)
theorem head_rd {T : List Int} (hne : T ≠ []) (c : Int) : (T.head? = some c) ↔ rd T 0 = c := by
 cases T with
 | nil => exact absurd rfl hne
 | cons x T => simp [rd]
set_option maxHeartbeats 1000000 in
theorem tAtom_ok (T : List Int) (hT : Bytes T) (hlen : T.length ≤ 16777216) : Fn Tryz.prog 110 [.one (.fz (.str (bytesOf T)))] [] (atomT T) [] := by
 refine token_Atom_fn _ ?_
 obtain ⟨R, hR, hRe⟩ : ∃ R : TV → List Ob → Prop, R (atomT T) [] ∧ (fun r' h' => r' = atomT T ∧ h' = []) = R := ⟨_, ⟨rfl, rfl⟩, rfl⟩
 rw [hRe]
 clear hRe
 unfold token_Atom_H
 obtain ⟨e1, e2, e3, e4, e5, e6⟩ := atom_eqs hT
 rw [map_bs, bs_of hT, e1, e2, e3, e4, e5, e6, size_of]
 clear e1 e2 e3 e4 e5 e6
 refine ⟨fun h => ?_, fun h1 => ⟨fun h => ?_, fun h2 => ⟨fun h => ?_, fun h3 => ⟨fun h => ?_, fun h4 => ?_⟩⟩⟩⟩
 ·rw [atomT_8 (.inl (of_decide_eq_true h))] at hR; exact hR
 ·rw [atomT_8 (.inr (of_decide_eq_true h))] at hR; exact hR
 ·rw [atomT_9 (.inl (of_decide_eq_true h))] at hR; exact hR
 ·rw [atomT_9 (.inr (of_decide_eq_true h))] at hR; exact hR
 have g1 : ¬ trueP T := fun h => h.elim (of_decide_eq_false h1) (of_decide_eq_false h2)
 have g2 : ¬ falseP T := fun h => h.elim (of_decide_eq_false h3) (of_decide_eq_false h4)
 refine ⟨_, _, _, parse_ok T hT (by omega), fun h => ?_, fun h5 => ?_⟩
 ·rw [atomT_7 g1 g2 h] at hR; exact hR
 have hS : symP T → R (atT 4 (bytesOf T) false [] true) [] := fun h => by rw [atomT_4 g1 g2 h5 h] at hR; exact hR
 have hN : ¬ symP T → R (atT 0 (ByteArray.mk #[]) false [] false) [] := fun h => by rw [atomT_0 g1 g2 h5 h] at hR; exact hR
 clear hR
 refine ⟨_, _, _, utfDecode_ok T hT, ?_⟩
 have p1 := HasPrefix_fn (bytesOf T) (ByteArray.mk #[43])
 have p2 := HasPrefix_fn (bytesOf T) (ByteArray.mk #[45])
 rw [show (ByteArray.mk #[43]).data.toList = [UInt8.ofNat 43] from rfl, hasPref T hT 43 (by omega)] at p1
 rw [show (ByteArray.mk #[45]).data.toList = [UInt8.ofNat 45] from rfl, hasPref T hT 45 (by omega)] at p2
 have rest : ∀ (sg : Bool), (T ≠ [] → (sg = true ↔ (rd T 0 = 43 ∨ rd T 0 = 45))) →
   (decide (T = []) = true → R (atT 0 (ByteArray.mk #[]) false [] false) []) ∧ (decide (T = []) = false →
   (decide (T = [46]) = true → R (atT 0 (ByteArray.mk #[]) false [] false) []) ∧ (decide (T = [46]) = false →
   (decide ((64 : Int) < ((T.length : Nat) : Int)) = true → R (atT 0 (ByteArray.mk #[]) false [] false) []) ∧ (decide ((64 : Int) < ((T.length : Nat) : Int)) = false →
   ((decE T != 0) = true → R (atT 0 (ByteArray.mk #[]) false [] false) []) ∧ ((decE T != 0) = false →
   ∃ b17 : Bool, Fn Tryz.prog 55 [fzS .i64 (decL T), .one (.fz (.fn 104 []))] [] (fzB b17) [] ∧
   (b17 = true → R (atT 0 (ByteArray.mk #[]) false [] false) []) ∧ (b17 = false → (0 : Int) ≤ 0 ∧ ∃ c2 : UInt8, (ByteArray.data (bytesOf T))[Int.toNat 0]? = some c2 ∧
   (((((UInt8.toNat c2) : Nat) : Int) == 35) = true → R (atT 0 (ByteArray.mk #[]) false [] false) []) ∧ (((((UInt8.toNat c2) : Nat) : Int) == 35) = false →
   ∃ b18 : Bool, Fn Tryz.prog 139 [.one (.fz (.str (bytesOf T))), fzI .i64 0] [] (fzB b18) [] ∧
   (b18 = true → R (atT 0 (ByteArray.mk #[]) false [] false) []) ∧ (b18 = false →
   (sg = true → ∃ b19 : Bool, Fn Tryz.prog 139 [.one (.fz (.str (bytesOf T))), fzI .i64 1] [] (fzB b19) [] ∧ (b19 = true → R (atT 0 (ByteArray.mk #[]) false [] false) []) ∧ (b19 = false → R (atT 4 (bytesOf T) false [] true) [])) ∧
   (sg = false → R (atT 4 (bytesOf T) false [] true) [])))))))) := by
  intro sg hsg
  refine ⟨fun h => hN fun hs => hs.1 (of_decide_eq_true h), fun h => ?_⟩
  have hne : T ≠ [] := of_decide_eq_false h
  refine ⟨fun h => hN fun hs => hs.2.1 (of_decide_eq_true h), fun h6 => ⟨fun h => hN fun hs => ?_, fun h => ?_⟩⟩
  ·have := of_decide_eq_true h
   have := hs.2.2.1
   omega
  have hl : ¬ 64 < T.length := by have := of_decide_eq_false h; omega
  obtain ⟨d1, d2⟩ := decE_small hl
  rw [bne_t, bne_f]
  refine ⟨fun h => hN fun hs => (d1.1 h) hs.2.2.2.1, fun h => ?_⟩
  have hc : (chars T).2 = -1 := by
   by_cases hc : (chars T).2 = -1
   ·exact hc
   ·exact absurd h (d1.2 hc)
  have hcl := chars_len T
  rw [d2 hc]
  refine ⟨_, anyEnds_ok _ (by omega), fun h => hN fun hs => ?_, fun h7 => ⟨by omega, ?_⟩⟩
  ·have := hs.2.2.2.2.1
   rw [h] at this; cases this
  obtain ⟨c, hcc, hcn⟩ := byte0 hT hne
  refine ⟨c, hcc, ?_⟩
  rw [hcn, beq_t, beq_f]
  refine ⟨fun h => hN fun hs => hs.2.2.2.2.2.1 h, fun h8 => ⟨_, tdigit_ok T hT 0, fun h => hN fun hs => ?_, fun h9 => ⟨fun h => ⟨_, tdigit_ok T hT 1, fun h2 => hN fun hs => ?_, fun h2 => hS ?_⟩, fun h => hS ?_⟩⟩⟩
  ·have := hs.2.2.2.2.2.2.1
   rw [h] at this; cases this
  ·exact hs.2.2.2.2.2.2.2 ⟨(hsg hne).1 h, h2⟩
  ·exact ⟨hne, of_decide_eq_false h6, by omega, hc, h7, h8, h9, fun hx => by rw [hx.2] at h2; cases h2⟩
  ·exact ⟨hne, of_decide_eq_false h6, by omega, hc, h7, h8, h9, fun hx => by rw [(hsg hne).2 hx.1] at h; cases h⟩
 refine ⟨_, p1, fun h => ?_, fun h => ⟨_, p2, ?_⟩⟩
 ·obtain ⟨r1, r2⟩ := rest true (fun hne => ⟨fun _ => .inl ((head_rd hne _).1 (of_decide_eq_true h)), fun _ => rfl⟩)
  refine ⟨r1, fun k1 => ⟨(r2 k1).1, fun k2 => ⟨((r2 k1).2 k2).1, fun k3 => ⟨(((r2 k1).2 k2).2 k3).1, fun k4 => ?_⟩⟩⟩⟩
  obtain ⟨b, q1, q2, q3⟩ := (((r2 k1).2 k2).2 k3).2 k4
  refine ⟨b, q1, q2, fun k5 => ?_⟩
  obtain ⟨q4, c, q5, q6, q7⟩ := q3 k5
  refine ⟨q4, c, q5, q6, fun k6 => ?_⟩
  obtain ⟨b, q8, q9, q10⟩ := q7 k6
  exact ⟨b, q8, q9, fun k7 => (q10 k7).1 rfl⟩
 ·have hs : ∀ hne : T ≠ [], (decide (T.head? = some ((45 : Nat) : Int)) = true ↔ (rd T 0 = 43 ∨ rd T 0 = 45)) := fun hne => by
   rw [decide_eq_true_eq, head_rd hne]
   have := of_decide_eq_false h
   rw [head_rd hne] at this
   omega
  exact rest _ hs
theorem drop_rd' (l : List Int) (j : Nat) (h : j < l.length) : l.drop j = rd l j :: l.drop (j + 1) := by
 rw [rd_at l j h]; exact List.drop_eq_getElem_cons h
end
section
def unicode_utf8_AppendRune1_lv : List Nat → Keep := lvOf []
def unicode_utf8_AppendRune1_H (R : TV → List Ob → Prop) (rn : Int) (o : List (List FV)) : Prop :=
 ((((decide ((IntKind.wrap .u32 rn) ≤ 127)) = true) → (((((List.length o) + (List.length [[(FV.int .u8 (IntKind.wrap .u8 rn))]])) * 1) ≤ 220000000000000) ∧ (R (TV.one (AV.ofl 1 1)) [Ob.no, (Ob.f 0 1 (o ++ [[(FV.int .u8 (IntKind.wrap .u8 rn))]]))]))) ∧ (((decide ((IntKind.wrap .u32 rn) ≤ 127)) = false) → (∃ es1 : LL, ((Fn Tryz.prog 210 [(TV.one (AV.ofl 1 0)), (TV.one (AV.fz (FV.int .i32 rn)))] [(Ob.f 0 1 o)] (TV.one (AV.ofl 1 1)) [Ob.no, (Ob.f 0 1 es1)]) ∧ (R (TV.one (AV.ofl 1 1)) [Ob.no, (Ob.f 0 1 es1)])))))
theorem unicode_utf8_AppendRune1_fn (rn : Int) (o : LL) {r : TV} {h : List Ob} (H : unicode_utf8_AppendRune1_H (fun r' h' => r' = r ∧ Wk h' h) rn o) : Fn Tryz.prog 183 [(TV.one (AV.ofl 1 0)), (TV.one (AV.fz (FV.int .i32 rn)))] [(Ob.f 0 1 o)] r h :=
 Fn.by_trW (M := (modeOf [] [(210, [(Sig.mk 1 [(false, [(AT.a (AV.ofl 1 1))])] [OT.no, (OT.f 0 1)] 1)])])) (lv := unicode_utf8_AppendRune1_lv) (own := (some 1)) (F := Tryz.f183) (by kernel_rfl) (by kernel_rfl) (by first | decide | simp) (fun _ _ h => h) (by kernel_rfl) H
def unicode_utf8_appendRuneNonASCII1_lv : List Nat → Keep := lvOf []
def unicode_utf8_appendRuneNonASCII1_H (R : TV → List Ob → Prop) (rn : Int) (o : List (List FV)) : Prop :=
 ((((decide ((IntKind.wrap .u32 rn) ≤ 2047)) = true) → (((0 : Int) ≤ 6) ∧ (((((List.length o) + (List.length [[(FV.int .u8 (IntKind.wrap .u8 (((BitVec.toNat ((BitVec.ofInt 8 192) ||| (BitVec.ofInt 8 (IntKind.wrap .u8 (Int.fdiv rn (2 ^ (min (Int.toNat 6) 32))))))) : Nat) : Int)))], [(FV.int .u8 (IntKind.wrap .u8 (((BitVec.toNat ((BitVec.ofInt 8 128) ||| (BitVec.ofInt 8 (IntKind.wrap .u8 (((BitVec.toNat ((BitVec.ofInt 8 (IntKind.wrap .u8 rn)) &&& (BitVec.ofInt 8 63))) : Nat) : Int))))) : Nat) : Int)))]])) * 1) ≤ 220000000000000) ∧ (R (TV.one (AV.ofl 1 1)) [Ob.no, (Ob.f 0 1 (o ++ [[(FV.int .u8 (IntKind.wrap .u8 (((BitVec.toNat ((BitVec.ofInt 8 192) ||| (BitVec.ofInt 8 (IntKind.wrap .u8 (Int.fdiv rn (2 ^ (min (Int.toNat 6) 32))))))) : Nat) : Int)))], [(FV.int .u8 (IntKind.wrap .u8 (((BitVec.toNat ((BitVec.ofInt 8 128) ||| (BitVec.ofInt 8 (IntKind.wrap .u8 (((BitVec.toNat ((BitVec.ofInt 8 (IntKind.wrap .u8 rn)) &&& (BitVec.ofInt 8 63))) : Nat) : Int))))) : Nat) : Int)))]]))])))) ∧ (((decide ((IntKind.wrap .u32 rn) ≤ 2047)) = false) → ((((decide ((IntKind.wrap .u32 rn) < 55296)) = true) → (((0 : Int) ≤ 12) ∧ (((0 : Int) ≤ 6) ∧ (((((List.length o) + (List.length [[(FV.int .u8 (IntKind.wrap .u8 (((BitVec.toNat ((BitVec.ofInt 8 224) ||| (BitVec.ofInt 8 (IntKind.wrap .u8 (Int.fdiv rn (2 ^ (min (Int.toNat 12) 32))))))) : Nat) : Int)))], [(FV.int .u8 (IntKind.wrap .u8 (((BitVec.toNat ((BitVec.ofInt 8 128) ||| (BitVec.ofInt 8 (IntKind.wrap .u8 (((BitVec.toNat ((BitVec.ofInt 8 (IntKind.wrap .u8 (Int.fdiv rn (2 ^ (min (Int.toNat 6) 32))))) &&& (BitVec.ofInt 8 63))) : Nat) : Int))))) : Nat) : Int)))], [(FV.int .u8 (IntKind.wrap .u8 (((BitVec.toNat ((BitVec.ofInt 8 128) ||| (BitVec.ofInt 8 (IntKind.wrap .u8 (((BitVec.toNat ((BitVec.ofInt 8 (IntKind.wrap .u8 rn)) &&& (BitVec.ofInt 8 63))) : Nat) : Int))))) : Nat) : Int)))]])) * 1) ≤ 220000000000000) ∧ (R (TV.one (AV.ofl 1 1)) [Ob.no, (Ob.f 0 1 (o ++ [[(FV.int .u8 (IntKind.wrap .u8 (((BitVec.toNat ((BitVec.ofInt 8 224) ||| (BitVec.ofInt 8 (IntKind.wrap .u8 (Int.fdiv rn (2 ^ (min (Int.toNat 12) 32))))))) : Nat) : Int)))], [(FV.int .u8 (IntKind.wrap .u8 (((BitVec.toNat ((BitVec.ofInt 8 128) ||| (BitVec.ofInt 8 (IntKind.wrap .u8 (((BitVec.toNat ((BitVec.ofInt 8 (IntKind.wrap .u8 (Int.fdiv rn (2 ^ (min (Int.toNat 6) 32))))) &&& (BitVec.ofInt 8 63))) : Nat) : Int))))) : Nat) : Int)))], [(FV.int .u8 (IntKind.wrap .u8 (((BitVec.toNat ((BitVec.ofInt 8 128) ||| (BitVec.ofInt 8 (IntKind.wrap .u8 (((BitVec.toNat ((BitVec.ofInt 8 (IntKind.wrap .u8 rn)) &&& (BitVec.ofInt 8 63))) : Nat) : Int))))) : Nat) : Int)))]]))]))))) ∧ (((decide ((IntKind.wrap .u32 rn) < 55296)) = false) → ((((decide ((57343 : Int) < (IntKind.wrap .u32 rn))) = true) → ((((decide ((IntKind.wrap .u32 rn) ≤ 65535)) = true) → (((0 : Int) ≤ 12) ∧ (((0 : Int) ≤ 6) ∧ (((((List.length o) + (List.length [[(FV.int .u8 (IntKind.wrap .u8 (((BitVec.toNat ((BitVec.ofInt 8 224) ||| (BitVec.ofInt 8 (IntKind.wrap .u8 (Int.fdiv rn (2 ^ (min (Int.toNat 12) 32))))))) : Nat) : Int)))], [(FV.int .u8 (IntKind.wrap .u8 (((BitVec.toNat ((BitVec.ofInt 8 128) ||| (BitVec.ofInt 8 (IntKind.wrap .u8 (((BitVec.toNat ((BitVec.ofInt 8 (IntKind.wrap .u8 (Int.fdiv rn (2 ^ (min (Int.toNat 6) 32))))) &&& (BitVec.ofInt 8 63))) : Nat) : Int))))) : Nat) : Int)))], [(FV.int .u8 (IntKind.wrap .u8 (((BitVec.toNat ((BitVec.ofInt 8 128) ||| (BitVec.ofInt 8 (IntKind.wrap .u8 (((BitVec.toNat ((BitVec.ofInt 8 (IntKind.wrap .u8 rn)) &&& (BitVec.ofInt 8 63))) : Nat) : Int))))) : Nat) : Int)))]])) * 1) ≤ 220000000000000) ∧ (R (TV.one (AV.ofl 1 1)) [Ob.no, (Ob.f 0 1 (o ++ [[(FV.int .u8 (IntKind.wrap .u8 (((BitVec.toNat ((BitVec.ofInt 8 224) ||| (BitVec.ofInt 8 (IntKind.wrap .u8 (Int.fdiv rn (2 ^ (min (Int.toNat 12) 32))))))) : Nat) : Int)))], [(FV.int .u8 (IntKind.wrap .u8 (((BitVec.toNat ((BitVec.ofInt 8 128) ||| (BitVec.ofInt 8 (IntKind.wrap .u8 (((BitVec.toNat ((BitVec.ofInt 8 (IntKind.wrap .u8 (Int.fdiv rn (2 ^ (min (Int.toNat 6) 32))))) &&& (BitVec.ofInt 8 63))) : Nat) : Int))))) : Nat) : Int)))], [(FV.int .u8 (IntKind.wrap .u8 (((BitVec.toNat ((BitVec.ofInt 8 128) ||| (BitVec.ofInt 8 (IntKind.wrap .u8 (((BitVec.toNat ((BitVec.ofInt 8 (IntKind.wrap .u8 rn)) &&& (BitVec.ofInt 8 63))) : Nat) : Int))))) : Nat) : Int)))]]))]))))) ∧ (((decide ((IntKind.wrap .u32 rn) ≤ 65535)) = false) → ((((decide ((65535 : Int) < (IntKind.wrap .u32 rn))) = true) → ((((decide ((IntKind.wrap .u32 rn) ≤ 1114111)) = true) → (((0 : Int) ≤ 18) ∧ (((0 : Int) ≤ 12) ∧ (((0 : Int) ≤ 6) ∧ (((((List.length o) + (List.length [[(FV.int .u8 (IntKind.wrap .u8 (((BitVec.toNat ((BitVec.ofInt 8 240) ||| (BitVec.ofInt 8 (IntKind.wrap .u8 (Int.fdiv rn (2 ^ (min (Int.toNat 18) 32))))))) : Nat) : Int)))], [(FV.int .u8 (IntKind.wrap .u8 (((BitVec.toNat ((BitVec.ofInt 8 128) ||| (BitVec.ofInt 8 (IntKind.wrap .u8 (((BitVec.toNat ((BitVec.ofInt 8 (IntKind.wrap .u8 (Int.fdiv rn (2 ^ (min (Int.toNat 12) 32))))) &&& (BitVec.ofInt 8 63))) : Nat) : Int))))) : Nat) : Int)))], [(FV.int .u8 (IntKind.wrap .u8 (((BitVec.toNat ((BitVec.ofInt 8 128) ||| (BitVec.ofInt 8 (IntKind.wrap .u8 (((BitVec.toNat ((BitVec.ofInt 8 (IntKind.wrap .u8 (Int.fdiv rn (2 ^ (min (Int.toNat 6) 32))))) &&& (BitVec.ofInt 8 63))) : Nat) : Int))))) : Nat) : Int)))], [(FV.int .u8 (IntKind.wrap .u8 (((BitVec.toNat ((BitVec.ofInt 8 128) ||| (BitVec.ofInt 8 (IntKind.wrap .u8 (((BitVec.toNat ((BitVec.ofInt 8 (IntKind.wrap .u8 rn)) &&& (BitVec.ofInt 8 63))) : Nat) : Int))))) : Nat) : Int)))]])) * 1) ≤ 220000000000000) ∧ (R (TV.one (AV.ofl 1 1)) [Ob.no, (Ob.f 0 1 (o ++ [[(FV.int .u8 (IntKind.wrap .u8 (((BitVec.toNat ((BitVec.ofInt 8 240) ||| (BitVec.ofInt 8 (IntKind.wrap .u8 (Int.fdiv rn (2 ^ (min (Int.toNat 18) 32))))))) : Nat) : Int)))], [(FV.int .u8 (IntKind.wrap .u8 (((BitVec.toNat ((BitVec.ofInt 8 128) ||| (BitVec.ofInt 8 (IntKind.wrap .u8 (((BitVec.toNat ((BitVec.ofInt 8 (IntKind.wrap .u8 (Int.fdiv rn (2 ^ (min (Int.toNat 12) 32))))) &&& (BitVec.ofInt 8 63))) : Nat) : Int))))) : Nat) : Int)))], [(FV.int .u8 (IntKind.wrap .u8 (((BitVec.toNat ((BitVec.ofInt 8 128) ||| (BitVec.ofInt 8 (IntKind.wrap .u8 (((BitVec.toNat ((BitVec.ofInt 8 (IntKind.wrap .u8 (Int.fdiv rn (2 ^ (min (Int.toNat 6) 32))))) &&& (BitVec.ofInt 8 63))) : Nat) : Int))))) : Nat) : Int)))], [(FV.int .u8 (IntKind.wrap .u8 (((BitVec.toNat ((BitVec.ofInt 8 128) ||| (BitVec.ofInt 8 (IntKind.wrap .u8 (((BitVec.toNat ((BitVec.ofInt 8 (IntKind.wrap .u8 rn)) &&& (BitVec.ofInt 8 63))) : Nat) : Int))))) : Nat) : Int)))]]))])))))) ∧ (((decide ((IntKind.wrap .u32 rn) ≤ 1114111)) = false) → (((((List.length o) + (List.length [[(FV.int .u8 239)], [(FV.int .u8 191)], [(FV.int .u8 189)]])) * 1) ≤ 220000000000000) ∧ (R (TV.one (AV.ofl 1 1)) [Ob.no, (Ob.f 0 1 (o ++ [[(FV.int .u8 239)], [(FV.int .u8 191)], [(FV.int .u8 189)]]))]))))) ∧ (((decide ((65535 : Int) < (IntKind.wrap .u32 rn))) = false) → (((((List.length o) + (List.length [[(FV.int .u8 239)], [(FV.int .u8 191)], [(FV.int .u8 189)]])) * 1) ≤ 220000000000000) ∧ (R (TV.one (AV.ofl 1 1)) [Ob.no, (Ob.f 0 1 (o ++ [[(FV.int .u8 239)], [(FV.int .u8 191)], [(FV.int .u8 189)]]))]))))))) ∧ (((decide ((57343 : Int) < (IntKind.wrap .u32 rn))) = false) → ((((decide ((65535 : Int) < (IntKind.wrap .u32 rn))) = true) → ((((decide ((IntKind.wrap .u32 rn) ≤ 1114111)) = true) → (((0 : Int) ≤ 18) ∧ (((0 : Int) ≤ 12) ∧ (((0 : Int) ≤ 6) ∧ (((((List.length o) + (List.length [[(FV.int .u8 (IntKind.wrap .u8 (((BitVec.toNat ((BitVec.ofInt 8 240) ||| (BitVec.ofInt 8 (IntKind.wrap .u8 (Int.fdiv rn (2 ^ (min (Int.toNat 18) 32))))))) : Nat) : Int)))], [(FV.int .u8 (IntKind.wrap .u8 (((BitVec.toNat ((BitVec.ofInt 8 128) ||| (BitVec.ofInt 8 (IntKind.wrap .u8 (((BitVec.toNat ((BitVec.ofInt 8 (IntKind.wrap .u8 (Int.fdiv rn (2 ^ (min (Int.toNat 12) 32))))) &&& (BitVec.ofInt 8 63))) : Nat) : Int))))) : Nat) : Int)))], [(FV.int .u8 (IntKind.wrap .u8 (((BitVec.toNat ((BitVec.ofInt 8 128) ||| (BitVec.ofInt 8 (IntKind.wrap .u8 (((BitVec.toNat ((BitVec.ofInt 8 (IntKind.wrap .u8 (Int.fdiv rn (2 ^ (min (Int.toNat 6) 32))))) &&& (BitVec.ofInt 8 63))) : Nat) : Int))))) : Nat) : Int)))], [(FV.int .u8 (IntKind.wrap .u8 (((BitVec.toNat ((BitVec.ofInt 8 128) ||| (BitVec.ofInt 8 (IntKind.wrap .u8 (((BitVec.toNat ((BitVec.ofInt 8 (IntKind.wrap .u8 rn)) &&& (BitVec.ofInt 8 63))) : Nat) : Int))))) : Nat) : Int)))]])) * 1) ≤ 220000000000000) ∧ (R (TV.one (AV.ofl 1 1)) [Ob.no, (Ob.f 0 1 (o ++ [[(FV.int .u8 (IntKind.wrap .u8 (((BitVec.toNat ((BitVec.ofInt 8 240) ||| (BitVec.ofInt 8 (IntKind.wrap .u8 (Int.fdiv rn (2 ^ (min (Int.toNat 18) 32))))))) : Nat) : Int)))], [(FV.int .u8 (IntKind.wrap .u8 (((BitVec.toNat ((BitVec.ofInt 8 128) ||| (BitVec.ofInt 8 (IntKind.wrap .u8 (((BitVec.toNat ((BitVec.ofInt 8 (IntKind.wrap .u8 (Int.fdiv rn (2 ^ (min (Int.toNat 12) 32))))) &&& (BitVec.ofInt 8 63))) : Nat) : Int))))) : Nat) : Int)))], [(FV.int .u8 (IntKind.wrap .u8 (((BitVec.toNat ((BitVec.ofInt 8 128) ||| (BitVec.ofInt 8 (IntKind.wrap .u8 (((BitVec.toNat ((BitVec.ofInt 8 (IntKind.wrap .u8 (Int.fdiv rn (2 ^ (min (Int.toNat 6) 32))))) &&& (BitVec.ofInt 8 63))) : Nat) : Int))))) : Nat) : Int)))], [(FV.int .u8 (IntKind.wrap .u8 (((BitVec.toNat ((BitVec.ofInt 8 128) ||| (BitVec.ofInt 8 (IntKind.wrap .u8 (((BitVec.toNat ((BitVec.ofInt 8 (IntKind.wrap .u8 rn)) &&& (BitVec.ofInt 8 63))) : Nat) : Int))))) : Nat) : Int)))]]))])))))) ∧ (((decide ((IntKind.wrap .u32 rn) ≤ 1114111)) = false) → (((((List.length o) + (List.length [[(FV.int .u8 239)], [(FV.int .u8 191)], [(FV.int .u8 189)]])) * 1) ≤ 220000000000000) ∧ (R (TV.one (AV.ofl 1 1)) [Ob.no, (Ob.f 0 1 (o ++ [[(FV.int .u8 239)], [(FV.int .u8 191)], [(FV.int .u8 189)]]))]))))) ∧ (((decide ((65535 : Int) < (IntKind.wrap .u32 rn))) = false) → (((((List.length o) + (List.length [[(FV.int .u8 239)], [(FV.int .u8 191)], [(FV.int .u8 189)]])) * 1) ≤ 220000000000000) ∧ (R (TV.one (AV.ofl 1 1)) [Ob.no, (Ob.f 0 1 (o ++ [[(FV.int .u8 239)], [(FV.int .u8 191)], [(FV.int .u8 189)]]))]))))))))))
theorem unicode_utf8_appendRuneNonASCII1_fn (rn : Int) (o : LL) {r : TV} {h : List Ob} (H : unicode_utf8_appendRuneNonASCII1_H (fun r' h' => r' = r ∧ Wk h' h) rn o) : Fn Tryz.prog 210 [(TV.one (AV.ofl 1 0)), (TV.one (AV.fz (FV.int .i32 rn)))] [(Ob.f 0 1 o)] r h :=
 Fn.by_trW (M := (modeOf [] [])) (lv := unicode_utf8_appendRuneNonASCII1_lv) (own := (some 1)) (F := Tryz.f210) (by kernel_rfl) (by kernel_rfl) (by first | decide | simp) (fun _ _ h => h) (by kernel_rfl) H
def unicode_utf8_ValidRune_lv : List Nat → Keep := lvOf []
def unicode_utf8_ValidRune_H (R : TV → List Ob → Prop) (r_ : Int) : Prop :=
 ((((decide ((0 : Int) ≤ r_)) = true) → ((((decide (r_ < 55296)) = true) → (R (TV.one (AV.fz (FV.bool true))) [])) ∧ (((decide (r_ < 55296)) = false) → ((((decide ((57343 : Int) < r_)) = true) → ((((decide (r_ ≤ 1114111)) = true) → (R (TV.one (AV.fz (FV.bool true))) [])) ∧ (((decide (r_ ≤ 1114111)) = false) → (R (TV.one (AV.fz (FV.bool false))) [])))) ∧ (((decide ((57343 : Int) < r_)) = false) → (R (TV.one (AV.fz (FV.bool false))) [])))))) ∧ (((decide ((0 : Int) ≤ r_)) = false) → ((((decide ((57343 : Int) < r_)) = true) → ((((decide (r_ ≤ 1114111)) = true) → (R (TV.one (AV.fz (FV.bool true))) [])) ∧ (((decide (r_ ≤ 1114111)) = false) → (R (TV.one (AV.fz (FV.bool false))) [])))) ∧ (((decide ((57343 : Int) < r_)) = false) → (R (TV.one (AV.fz (FV.bool false))) [])))))
theorem unicode_utf8_ValidRune_fn (r_ : Int) {r : TV} {h : List Ob} (H : unicode_utf8_ValidRune_H (fun r' h' => r' = r ∧ h' = h) r_) : Fn Tryz.prog 100 [(TV.one (AV.fz (FV.int .i32 r_)))] [] r h :=
 Fn.by_tr (M := (modeOf [] [])) (lv := unicode_utf8_ValidRune_lv) (own := none) (F := Tryz.f100) (by kernel_rfl) (by kernel_rfl) (by first | decide | simp) (fun _ _ h => h) (by kernel_rfl) H
def strings_CutPrefix_lv : List Nat → Keep := lvOf []
def strings_CutPrefix_H (R : TV → List Ob → Prop) (s : ByteArray) (prefix_ : ByteArray) : Prop :=
 (∃ s2 : ByteArray, (∃ b1 : Bool, ((Fn Tryz.prog 211 [(TV.one (AV.fz (FV.str s))), (TV.one (AV.fz (FV.str prefix_)))] [] (TV.tup [(false, [(AV.fz (FV.str s2))]), (false, [(AV.fz (FV.bool b1))])]) []) ∧ (R (TV.tup [(false, [(AV.fz (FV.str s2))]), (false, [(AV.fz (FV.bool b1))])]) []))))
theorem strings_CutPrefix_fn (s : ByteArray) (prefix_ : ByteArray) {r : TV} {h : List Ob} (H : strings_CutPrefix_H (fun r' h' => r' = r ∧ h' = h) s prefix_) : Fn Tryz.prog 185 [(TV.one (AV.fz (FV.str s))), (TV.one (AV.fz (FV.str prefix_)))] [] r h :=
 Fn.by_tr (M := (modeOf [] [])) (lv := strings_CutPrefix_lv) (own := none) (F := Tryz.f185) (by kernel_rfl) (by kernel_rfl) (by first | decide | simp) (fun _ _ h => h) (by kernel_rfl) H
def internal_stringslite_CutPrefix_lv : List Nat → Keep := lvOf []
def internal_stringslite_CutPrefix_H (R : TV → List Ob → Prop) (s : ByteArray) (prefix_ : ByteArray) : Prop :=
 (∃ b1 : Bool, ((Fn Tryz.prog 165 [(TV.one (AV.fz (FV.str s))), (TV.one (AV.fz (FV.str prefix_)))] [] (TV.one (AV.fz (FV.bool b1))) []) ∧ ((((Bool.not b1) = true) → (R (TV.tup [(false, [(AV.fz (FV.str s))]), (false, [(AV.fz (FV.bool false))])]) [])) ∧ (((Bool.not b1) = false) → ((((0 : Int) ≤ (((ByteArray.size prefix_) : Nat) : Int)) ∧ ((((ByteArray.size prefix_) : Nat) : Int) ≤ (((ByteArray.size s) : Nat) : Int))) ∧ (R (TV.tup [(false, [(AV.fz (FV.str (ByteArray.extract s (Int.toNat (((ByteArray.size prefix_) : Nat) : Int)) (ByteArray.size s))))]), (false, [(AV.fz (FV.bool true))])]) []))))))
theorem internal_stringslite_CutPrefix_fn (s : ByteArray) (prefix_ : ByteArray) {r : TV} {h : List Ob} (H : internal_stringslite_CutPrefix_H (fun r' h' => r' = r ∧ h' = h) s prefix_) : Fn Tryz.prog 211 [(TV.one (AV.fz (FV.str s))), (TV.one (AV.fz (FV.str prefix_)))] [] r h :=
 Fn.by_tr (M := (modeOf [] [])) (lv := internal_stringslite_CutPrefix_lv) (own := none) (F := Tryz.f211) (by kernel_rfl) (by kernel_rfl) (by first | decide | simp) (fun _ _ h => h) (by kernel_rfl) H
def internal_stringslite_HasPrefix_lv : List Nat → Keep := lvOf []
def internal_stringslite_HasPrefix_H (R : TV → List Ob → Prop) (s : ByteArray) (prefix_ : ByteArray) : Prop :=
 ((((decide ((((ByteArray.size prefix_) : Nat) : Int) ≤ (((ByteArray.size s) : Nat) : Int))) = true) → ((((0 : Int) ≤ (((ByteArray.size prefix_) : Nat) : Int)) ∧ ((((ByteArray.size prefix_) : Nat) : Int) ≤ (((ByteArray.size s) : Nat) : Int))) ∧ (R (TV.one (AV.fz (FV.bool ((ByteArray.toList (ByteArray.extract s 0 (Int.toNat (((ByteArray.size prefix_) : Nat) : Int)))) == (ByteArray.toList prefix_))))) []))) ∧ (((decide ((((ByteArray.size prefix_) : Nat) : Int) ≤ (((ByteArray.size s) : Nat) : Int))) = false) → (R (TV.one (AV.fz (FV.bool false))) [])))
theorem internal_stringslite_HasPrefix_fn (s : ByteArray) (prefix_ : ByteArray) {r : TV} {h : List Ob} (H : internal_stringslite_HasPrefix_H (fun r' h' => r' = r ∧ h' = h) s prefix_) : Fn Tryz.prog 165 [(TV.one (AV.fz (FV.str s))), (TV.one (AV.fz (FV.str prefix_)))] [] r h :=
 Fn.by_tr (M := (modeOf [] [])) (lv := internal_stringslite_HasPrefix_lv) (own := none) (F := Tryz.f165) (by kernel_rfl) (by kernel_rfl) (by first | decide | simp) (fun _ _ h => h) (by kernel_rfl) H
def internal_strconv_lower_lv : List Nat → Keep := lvOf []
def internal_strconv_lower_H (R : TV → List Ob → Prop) (c : Int) : Prop :=
 (R (TV.one (AV.fz (FV.int .u8 (IntKind.wrap .u8 (((BitVec.toNat ((BitVec.ofInt 8 c) ||| (BitVec.ofInt 8 32))) : Nat) : Int))))) [])
theorem internal_strconv_lower_fn (c : Int) {r : TV} {h : List Ob} (H : internal_strconv_lower_H (fun r' h' => r' = r ∧ h' = h) c) : Fn Tryz.prog 224 [(TV.one (AV.fz (FV.int .u8 c)))] [] r h :=
 Fn.by_tr (M := (modeOf [] [])) (lv := internal_strconv_lower_lv) (own := none) (F := Tryz.f224) (by kernel_rfl) (by kernel_rfl) (by first | decide | simp) (fun _ _ h => h) (by kernel_rfl) H
end
section
def token_scanner_leftO_lv : List Nat → Keep := lvOf []
def token_scanner_leftO_H (R : TV → List Ob → Prop) (n : Int) (tx : List (List FV)) (p : Int) : Prop :=
 (R (TV.one (AV.fz (FV.bool (decide ((IntKind.wrap .i64 (p + n)) ≤ (((List.length tx) : Nat) : Int)))))) [(Ob.g 110 [(AV.fz (FV.sl 1 tx)), (AV.fz (FV.int .i64 p))])])
theorem token_scanner_leftO_fn (n : Int) (tx : LL) (p : Int) {r : TV} {h : List Ob} (H : token_scanner_leftO_H (fun r' h' => r' = r ∧ Wk h' h) n tx p) : Fn Tryz.prog 67 [(TV.one (AV.ptr 0 0 0 110)), (TV.one (AV.fz (FV.int .i64 n)))] [(Ob.g 110 [(AV.fz (FV.sl 1 tx)), (AV.fz (FV.int .i64 p))])] r h :=
 Fn.by_trW (M := (modeOf [] [])) (lv := token_scanner_leftO_lv) (own := (some 1)) (F := Tryz.f67) (by kernel_rfl) (by kernel_rfl) (by first | decide | simp) (fun _ _ h => h) (by kernel_rfl) H
def token_scanner_peekO_lv : List Nat → Keep := lvOf []
def token_scanner_peekO_H (R : TV → List Ob → Prop) (n : Int) (tx : List (List FV)) (p : Int) : Prop :=
 (∃ es1 : LL, (∃ n3 : Int, (∃ b1 : Bool, ((Fn Tryz.prog 67 [(TV.one (AV.ptr 0 0 0 110)), (TV.one (AV.fz (FV.int .i64 (IntKind.wrap .i64 (n + 1)))))] [(Ob.g 110 [(AV.fz (FV.sl 1 tx)), (AV.fz (FV.int .i64 p))])] (TV.one (AV.fz (FV.bool b1))) [(Ob.g 110 [(AV.fz (FV.sl 1 es1)), (AV.fz (FV.int .i64 n3))])]) ∧ ((((Bool.not b1) = true) → (R (TV.one (AV.fz (FV.int .i64 (-1)))) [(Ob.g 110 [(AV.fz (FV.sl 1 es1)), (AV.fz (FV.int .i64 n3))])])) ∧ (((Bool.not b1) = false) → (((0 : Int) ≤ (IntKind.wrap .i64 (n3 + n))) ∧ (∃ n4 : Int, (((es1)[(Int.toNat (IntKind.wrap .i64 (n3 + n)))]? = (some [(FV.int .i64 n4)])) ∧ (R (TV.one (AV.fz (FV.int .i64 n4))) [(Ob.g 110 [(AV.fz (FV.sl 1 es1)), (AV.fz (FV.int .i64 n3))])]))))))))))
theorem token_scanner_peekO_fn (n : Int) (tx : LL) (p : Int) {r : TV} {h : List Ob} (H : token_scanner_peekO_H (fun r' h' => r' = r ∧ Wk h' h) n tx p) : Fn Tryz.prog 101 [(TV.one (AV.ptr 0 0 0 110)), (TV.one (AV.fz (FV.int .i64 n)))] [(Ob.g 110 [(AV.fz (FV.sl 1 tx)), (AV.fz (FV.int .i64 p))])] r h :=
 Fn.by_trW (M := (modeOf [] [(67, [(Sig.mk 1 [(false, [(AT.k CK.bool)])] [(OT.g 110 [(AT.k (CK.sl 1)), (AT.k (CK.int .i64))])] 0)])])) (lv := token_scanner_peekO_lv) (own := (some 1)) (F := Tryz.f101) (by kernel_rfl) (by kernel_rfl) (by first | decide | simp) (fun _ _ h => h) (by kernel_rfl) H
def token_scanner_blanksO_lv : List Nat → Keep := lvOf [([0], ⟨1, 0, [], false, false⟩), ([0, 0, 1, 1, 1, 0, 1, 0, 0, 0], ⟨1, 0, [], false, false⟩)]
def token_scanner_blanksO_S0 (o : LL) (o1 : Int) : St := (St.mk [(TV.one (AV.ptr 0 0 0 110)), TV.und, TV.und, TV.und, TV.und, TV.und, TV.und, TV.und, TV.und, TV.und, TV.und, TV.und, TV.und, TV.und, TV.und, TV.und, TV.und, TV.und, TV.und, TV.und, TV.und, TV.und, TV.und, TV.und, TV.und, TV.und, TV.und, TV.und, TV.und, TV.und, TV.und, TV.und, TV.und, TV.und, TV.und, TV.und] [(Ob.g 110 [(AV.fz (FV.sl 1 o)), (AV.fz (FV.int .i64 o1))])])
def token_scanner_blanksO_L0 (R : TV → List Ob → Prop) (o : LL) (o1 : Int) : Prop := LoopAt Tryz.prog (modeOf [] [(67, [(Sig.mk 1 [(false, [(AT.k CK.bool)])] [(OT.g 110 [(AT.k (CK.sl 1)), (AT.k (CK.int .i64))])] 0)]), (101, [(Sig.mk 1 [(false, [(AT.k (CK.int .i64))])] [(OT.g 110 [(AT.k (CK.sl 1)), (AT.k (CK.int .i64))])] 0)])]) token_scanner_blanksO_lv Tryz.f66 (some 1) R [0] (token_scanner_blanksO_S0 o o1)
def token_scanner_blanksO_S1 (es : LL) (n : Int) : St := (St.mk [(TV.one (AV.ptr 0 0 0 110)), TV.und, TV.und, TV.und, TV.und, TV.und, TV.und, TV.und, TV.und, TV.und, TV.und, TV.und, TV.und, TV.und, TV.und, TV.und, TV.und, TV.und, TV.und, TV.und, TV.und, TV.und, TV.und, TV.und, TV.und, TV.und, TV.und, TV.und, TV.und, TV.und, TV.und, TV.und, TV.und, TV.und, TV.und, TV.und] [(Ob.g 110 [(AV.fz (FV.sl 1 es)), (AV.fz (FV.int .i64 n))])])
def token_scanner_blanksO_L1 (R : TV → List Ob → Prop) (es : LL) (n : Int) : Prop := LoopAt Tryz.prog (modeOf [] [(67, [(Sig.mk 1 [(false, [(AT.k CK.bool)])] [(OT.g 110 [(AT.k (CK.sl 1)), (AT.k (CK.int .i64))])] 0)]), (101, [(Sig.mk 1 [(false, [(AT.k (CK.int .i64))])] [(OT.g 110 [(AT.k (CK.sl 1)), (AT.k (CK.int .i64))])] 0)])]) token_scanner_blanksO_lv Tryz.f66 (some 1) R [0, 0, 0, 1, 0, 1, 1, 1, 0, 0] (token_scanner_blanksO_S1 es n)
def token_scanner_blanksO_R0 (R : TV → List Ob → Prop) (o : List (List FV)) (o1 : Int) : Prop :=
 (∃ es4 : LL, (∃ n7 : Int, (∃ n8 : Int, ((Fn Tryz.prog 101 [(TV.one (AV.ptr 0 0 0 110)), (TV.one (AV.fz (FV.int .i64 0)))] [(Ob.g 110 [(AV.fz (FV.sl 1 o)), (AV.fz (FV.int .i64 o1))])] (TV.one (AV.fz (FV.int .i64 n8))) [(Ob.g 110 [(AV.fz (FV.sl 1 es4)), (AV.fz (FV.int .i64 n7))])]) ∧ ((((decide ((0 : Int) ≤ n8)) = true) → (∃ b3 : Bool, ((Fn Tryz.prog 102 [(TV.one (AV.fz (FV.int .i64 n8)))] [] (TV.one (AV.fz (FV.bool b3))) []) ∧ (((b3 = true) → (token_scanner_blanksO_L0 R es4 (IntKind.wrap .i64 (n7 + 1)))) ∧ ((b3 = false) → ((((n8 == 59) = true) → (token_scanner_blanksO_L1 R es4 n7)) ∧ (((n8 == 59) = false) → (R (TV.tup []) [(Ob.g 110 [(AV.fz (FV.sl 1 es4)), (AV.fz (FV.int .i64 n7))])])))))))) ∧ (((decide ((0 : Int) ≤ n8)) = false) → ((((n8 == 59) = true) → (token_scanner_blanksO_L1 R es4 n7)) ∧ (((n8 == 59) = false) → (R (TV.tup []) [(Ob.g 110 [(AV.fz (FV.sl 1 es4)), (AV.fz (FV.int .i64 n7))])])))))))))
theorem token_scanner_blanksO_l0 {R : TV → List Ob → Prop} {o : LL} {o1 : Int} (h : token_scanner_blanksO_R0 R o o1) : token_scanner_blanksO_L0 R o o1 :=
 LoopAt.by_tr (by kernel_rfl) (by kernel_rfl) h
def token_scanner_blanksO_R1 (R : TV → List Ob → Prop) (es : List (List FV)) (n : Int) : Prop :=
 (∃ es4 : LL, (∃ n7 : Int, (∃ b3 : Bool, ((Fn Tryz.prog 67 [(TV.one (AV.ptr 0 0 0 110)), (TV.one (AV.fz (FV.int .i64 1)))] [(Ob.g 110 [(AV.fz (FV.sl 1 es)), (AV.fz (FV.int .i64 n))])] (TV.one (AV.fz (FV.bool b3))) [(Ob.g 110 [(AV.fz (FV.sl 1 es4)), (AV.fz (FV.int .i64 n7))])]) ∧ (((b3 = true) → (∃ es5 : LL, (∃ n8 : Int, (∃ n9 : Int, ((Fn Tryz.prog 101 [(TV.one (AV.ptr 0 0 0 110)), (TV.one (AV.fz (FV.int .i64 0)))] [(Ob.g 110 [(AV.fz (FV.sl 1 es4)), (AV.fz (FV.int .i64 n7))])] (TV.one (AV.fz (FV.int .i64 n9))) [(Ob.g 110 [(AV.fz (FV.sl 1 es5)), (AV.fz (FV.int .i64 n8))])]) ∧ ((((n9 != 10) = true) → (token_scanner_blanksO_L1 R es5 (IntKind.wrap .i64 (n8 + 1)))) ∧ (((n9 != 10) = false) → (token_scanner_blanksO_L0 R es5 n8)))))))) ∧ ((b3 = false) → (token_scanner_blanksO_L0 R es4 n7)))))))
theorem token_scanner_blanksO_l1 {R : TV → List Ob → Prop} {es : LL} {n : Int} (h : token_scanner_blanksO_R1 R es n) : token_scanner_blanksO_L1 R es n :=
 LoopAt.by_tr (by kernel_rfl) (by kernel_rfl) h
def token_scanner_blanksO_H (R : TV → List Ob → Prop) (tx : List (List FV)) (p : Int) : Prop :=
 (token_scanner_blanksO_L0 R tx p)
theorem token_scanner_blanksO_fn (tx : LL) (p : Int) {r : TV} {h : List Ob} (H : token_scanner_blanksO_H (fun r' h' => r' = r ∧ Wk h' h) tx p) : Fn Tryz.prog 66 [(TV.one (AV.ptr 0 0 0 110))] [(Ob.g 110 [(AV.fz (FV.sl 1 tx)), (AV.fz (FV.int .i64 p))])] r h :=
 Fn.by_trW (M := (modeOf [] [(67, [(Sig.mk 1 [(false, [(AT.k CK.bool)])] [(OT.g 110 [(AT.k (CK.sl 1)), (AT.k (CK.int .i64))])] 0)]), (101, [(Sig.mk 1 [(false, [(AT.k (CK.int .i64))])] [(OT.g 110 [(AT.k (CK.sl 1)), (AT.k (CK.int .i64))])] 0)])])) (lv := token_scanner_blanksO_lv) (own := (some 1)) (F := Tryz.f66) (by kernel_rfl) (by kernel_rfl) (by first | decide | simp) (fun _ _ h => h) (by kernel_rfl) H
def token_scanner_whileO_lv : List Nat → Keep := lvOf [([0, 0, 1, 1, 1], ⟨33, 0, [], false, false⟩)]
def token_scanner_whileO_S0 (p : Int) (o : LL) (o1 : Int) : St := (St.mk [(TV.one (AV.ptr 0 0 0 110)), TV.und, TV.und, TV.und, TV.und, (TV.one (AV.fz (FV.int .i64 p))), TV.und, TV.und, TV.und, TV.und, TV.und, TV.und, TV.und, TV.und, TV.und, TV.und, TV.und, TV.und, TV.und, TV.und, TV.und, TV.und, TV.und, TV.und, TV.und, TV.und, TV.und, TV.und, TV.und, TV.und, TV.und, TV.und, TV.und, TV.und, TV.und, TV.und, TV.und, TV.und, TV.und, TV.und, TV.und, TV.und, TV.und, TV.und, TV.und, TV.und, TV.und, TV.und, TV.und, TV.und, TV.und] [(Ob.g 110 [(AV.fz (FV.sl 1 o)), (AV.fz (FV.int .i64 o1))])])
def token_scanner_whileO_L0 (R : TV → List Ob → Prop) (p : Int) (o : LL) (o1 : Int) : Prop := LoopAt Tryz.prog (modeOf [] [(67, [(Sig.mk 1 [(false, [(AT.k CK.bool)])] [(OT.g 110 [(AT.k (CK.sl 1)), (AT.k (CK.int .i64))])] 0)]), (101, [(Sig.mk 1 [(false, [(AT.k (CK.int .i64))])] [(OT.g 110 [(AT.k (CK.sl 1)), (AT.k (CK.int .i64))])] 0)])]) token_scanner_whileO_lv Tryz.f134 (some 1) R [1, 1, 1, 0, 0] (token_scanner_whileO_S0 p o o1)
def token_scanner_whileO_R0 (R : TV → List Ob → Prop) (p : Int) (o : List (List FV)) (o1 : Int) : Prop :=
 (∃ es8 : LL, (∃ n15 : Int, (∃ b4 : Bool, ((Fn Tryz.prog 67 [(TV.one (AV.ptr 0 0 0 110)), (TV.one (AV.fz (FV.int .i64 1)))] [(Ob.g 110 [(AV.fz (FV.sl 1 o)), (AV.fz (FV.int .i64 o1))])] (TV.one (AV.fz (FV.bool b4))) [(Ob.g 110 [(AV.fz (FV.sl 1 es8)), (AV.fz (FV.int .i64 n15))])]) ∧ (((b4 = true) → (∃ es9 : LL, (∃ n16 : Int, (∃ n17 : Int, ((Fn Tryz.prog 101 [(TV.one (AV.ptr 0 0 0 110)), (TV.one (AV.fz (FV.int .i64 0)))] [(Ob.g 110 [(AV.fz (FV.sl 1 es8)), (AV.fz (FV.int .i64 n15))])] (TV.one (AV.fz (FV.int .i64 n17))) [(Ob.g 110 [(AV.fz (FV.sl 1 es9)), (AV.fz (FV.int .i64 n16))])]) ∧ (∃ b5 : Bool, ((Fn Tryz.prog 104 [(TV.one (AV.fz (FV.int .i64 n17)))] [] (TV.one (AV.fz (FV.bool b5))) []) ∧ ((((Bool.not b5) = true) → (token_scanner_whileO_L0 R p es9 (IntKind.wrap .i64 (n16 + 1)))) ∧ (((Bool.not b5) = false) → ((((0 : Int) ≤ p) ∧ ((p ≤ n16) ∧ (n16 ≤ (((List.length es9) : Nat) : Int)))) ∧ (∃ es10 : LL, (∃ n18 : Int, ((Fn Tryz.prog 157 [(TV.one (AV.fz (FV.sl 1 (List.drop (Int.toNat p) (List.take (Int.toNat n16) es9)))))] [] (TV.tup [(false, [(AV.fz (FV.sl 1 es10))]), (false, [(AV.fz (FV.int .i64 n18))])]) []) ∧ (∃ ns4 : List Int, ((es10 = (List.map (fun n19 => [(FV.int .u8 n19)]) ns4)) ∧ (R (TV.one (AV.fz (FV.str (bytesOf ns4)))) [(Ob.g 110 [(AV.fz (FV.sl 1 es9)), (AV.fz (FV.int .i64 n16))])])))))))))))))))) ∧ ((b4 = false) → ((((0 : Int) ≤ p) ∧ ((p ≤ n15) ∧ (n15 ≤ (((List.length es8) : Nat) : Int)))) ∧ (∃ es11 : LL, (∃ n20 : Int, ((Fn Tryz.prog 157 [(TV.one (AV.fz (FV.sl 1 (List.drop (Int.toNat p) (List.take (Int.toNat n15) es8)))))] [] (TV.tup [(false, [(AV.fz (FV.sl 1 es11))]), (false, [(AV.fz (FV.int .i64 n20))])]) []) ∧ (∃ ns5 : List Int, ((es11 = (List.map (fun n21 => [(FV.int .u8 n21)]) ns5)) ∧ (R (TV.one (AV.fz (FV.str (bytesOf ns5)))) [(Ob.g 110 [(AV.fz (FV.sl 1 es8)), (AV.fz (FV.int .i64 n15))])])))))))))))))
theorem token_scanner_whileO_l0 {R : TV → List Ob → Prop} {p : Int} {o : LL} {o1 : Int} (h : token_scanner_whileO_R0 R p o o1) : token_scanner_whileO_L0 R p o o1 :=
 LoopAt.by_tr (by kernel_rfl) (by kernel_rfl) h
def token_scanner_whileO_H (R : TV → List Ob → Prop) (from_ : Int) (tx : List (List FV)) (p : Int) : Prop :=
 (token_scanner_whileO_L0 R p tx (IntKind.wrap .i64 (p + from_)))
theorem token_scanner_whileO_fn (from_ : Int) (tx : LL) (p : Int) {r : TV} {h : List Ob} (H : token_scanner_whileO_H (fun r' h' => r' = r ∧ Wk h' h) from_ tx p) : Fn Tryz.prog 134 [(TV.one (AV.ptr 0 0 0 110)), (TV.one (AV.fz (FV.int .i64 from_)))] [(Ob.g 110 [(AV.fz (FV.sl 1 tx)), (AV.fz (FV.int .i64 p))])] r h :=
 Fn.by_trW (M := (modeOf [] [(67, [(Sig.mk 1 [(false, [(AT.k CK.bool)])] [(OT.g 110 [(AT.k (CK.sl 1)), (AT.k (CK.int .i64))])] 0)]), (101, [(Sig.mk 1 [(false, [(AT.k (CK.int .i64))])] [(OT.g 110 [(AT.k (CK.sl 1)), (AT.k (CK.int .i64))])] 0)])])) (lv := token_scanner_whileO_lv) (own := (some 1)) (F := Tryz.f134) (by kernel_rfl) (by kernel_rfl) (by first | decide | simp) (fun _ _ h => h) (by kernel_rfl) H
def token_scanner_hereO_lv : List Nat → Keep := lvOf [([0, 1, 0, 1], ⟨387, 0, [], false, false⟩)]
def token_scanner_hereO_S0 (w : ByteArray) (i : Int) (o : LL) (o1 : Int) : St := (St.mk [(TV.one (AV.ptr 0 0 0 110)), (TV.one (AV.fz (FV.str w))), TV.und, TV.und, TV.und, TV.und, TV.und, (TV.one (AV.fz (FV.int .i64 (((ByteArray.size w) : Nat) : Int)))), (TV.one (AV.fz (FV.int .i64 i))), TV.und, TV.und, TV.und, TV.und, TV.und, TV.und, TV.und, TV.und, TV.und, TV.und, TV.und] [(Ob.g 110 [(AV.fz (FV.sl 1 o)), (AV.fz (FV.int .i64 o1))])])
def token_scanner_hereO_L0 (R : TV → List Ob → Prop) (w : ByteArray) (i : Int) (o : LL) (o1 : Int) : Prop := LoopAt Tryz.prog (modeOf [] [(101, [(Sig.mk 1 [(false, [(AT.k (CK.int .i64))])] [(OT.g 110 [(AT.k (CK.sl 1)), (AT.k (CK.int .i64))])] 0)])]) token_scanner_hereO_lv Tryz.f103 (some 1) R [1, 0, 1, 0] (token_scanner_hereO_S0 w i o o1)
def token_scanner_hereO_R0 (R : TV → List Ob → Prop) (w : ByteArray) (i : Int) (o : List (List FV)) (o1 : Int) : Prop :=
 ((((decide (i < (((ByteArray.size w) : Nat) : Int))) = true) → (∃ es2 : LL, (∃ n4 : Int, (∃ n5 : Int, ((Fn Tryz.prog 101 [(TV.one (AV.ptr 0 0 0 110)), (TV.one (AV.fz (FV.int .i64 i)))] [(Ob.g 110 [(AV.fz (FV.sl 1 o)), (AV.fz (FV.int .i64 o1))])] (TV.one (AV.fz (FV.int .i64 n5))) [(Ob.g 110 [(AV.fz (FV.sl 1 es2)), (AV.fz (FV.int .i64 n4))])]) ∧ (((0 : Int) ≤ i) ∧ (∃ c2 : UInt8, ((((ByteArray.data w))[(Int.toNat i)]? = (some c2)) ∧ ((((n5 != (IntKind.wrap .i64 (((UInt8.toNat c2) : Nat) : Int))) = true) → (R (TV.one (AV.fz (FV.bool false))) [(Ob.g 110 [(AV.fz (FV.sl 1 es2)), (AV.fz (FV.int .i64 n4))])])) ∧ (((n5 != (IntKind.wrap .i64 (((UInt8.toNat c2) : Nat) : Int))) = false) → (token_scanner_hereO_L0 R w (IntKind.wrap .i64 (i + 1)) es2 n4))))))))))) ∧ (((decide (i < (((ByteArray.size w) : Nat) : Int))) = false) → (R (TV.one (AV.fz (FV.bool true))) [(Ob.g 110 [(AV.fz (FV.sl 1 o)), (AV.fz (FV.int .i64 o1))])])))
theorem token_scanner_hereO_l0 {R : TV → List Ob → Prop} {w : ByteArray} {i : Int} {o : LL} {o1 : Int} (h : token_scanner_hereO_R0 R w i o o1) : token_scanner_hereO_L0 R w i o o1 :=
 LoopAt.by_tr (by kernel_rfl) (by kernel_rfl) h
def token_scanner_hereO_H (R : TV → List Ob → Prop) (w : ByteArray) (tx : List (List FV)) (p : Int) : Prop :=
 (token_scanner_hereO_L0 R w 0 tx p)
theorem token_scanner_hereO_fn (w : ByteArray) (tx : LL) (p : Int) {r : TV} {h : List Ob} (H : token_scanner_hereO_H (fun r' h' => r' = r ∧ Wk h' h) w tx p) : Fn Tryz.prog 103 [(TV.one (AV.ptr 0 0 0 110)), (TV.one (AV.fz (FV.str w)))] [(Ob.g 110 [(AV.fz (FV.sl 1 tx)), (AV.fz (FV.int .i64 p))])] r h :=
 Fn.by_trW (M := (modeOf [] [(101, [(Sig.mk 1 [(false, [(AT.k (CK.int .i64))])] [(OT.g 110 [(AT.k (CK.sl 1)), (AT.k (CK.int .i64))])] 0)])])) (lv := token_scanner_hereO_lv) (own := (some 1)) (F := Tryz.f103) (by kernel_rfl) (by kernel_rfl) (by first | decide | simp) (fun _ _ h => h) (by kernel_rfl) H
def token_scanner_hexO_lv : List Nat → Keep := lvOf [([0, 0, 1, 1], ⟨9, 0, [], false, false⟩)]
def token_scanner_hexO_S0 (p : Int) (o : LL) (o1 : Int) : St := (St.mk [(TV.one (AV.ptr 0 0 0 110)), TV.und, TV.und, (TV.one (AV.fz (FV.int .i64 p))), TV.und, TV.und, TV.und, TV.und, TV.und, TV.und, TV.und, TV.und, TV.und, TV.und, TV.und, TV.und, TV.und, TV.und, TV.und, TV.und, TV.und, TV.und, TV.und, TV.und, TV.und, TV.und, TV.und, TV.und, TV.und, TV.und, TV.und, TV.und, TV.und, TV.und, TV.und, TV.und, TV.und, TV.und, TV.und, TV.und, TV.und, TV.und, TV.und, TV.und, TV.und, TV.und, TV.und, TV.und, TV.und, TV.und, TV.und, TV.und, TV.und, TV.und, TV.und, TV.und, TV.und, TV.und, TV.und, TV.und, TV.und, TV.und, TV.und, TV.und, TV.und, TV.und, TV.und, TV.und, TV.und, TV.und, TV.und, TV.und, TV.und, TV.und, TV.und, TV.und, TV.und] [(Ob.g 110 [(AV.fz (FV.sl 1 o)), (AV.fz (FV.int .i64 o1))])])
def token_scanner_hexO_L0 (R : TV → List Ob → Prop) (p : Int) (o : LL) (o1 : Int) : Prop := LoopAt Tryz.prog (modeOf [] [(67, [(Sig.mk 1 [(false, [(AT.k CK.bool)])] [(OT.g 110 [(AT.k (CK.sl 1)), (AT.k (CK.int .i64))])] 0)]), (101, [(Sig.mk 1 [(false, [(AT.k (CK.int .i64))])] [(OT.g 110 [(AT.k (CK.sl 1)), (AT.k (CK.int .i64))])] 0)])]) token_scanner_hexO_lv Tryz.f184 (some 1) R [1, 1, 0, 0] (token_scanner_hexO_S0 p o o1)
def token_scanner_hexO_R0 (R : TV → List Ob → Prop) (p : Int) (o : List (List FV)) (o1 : Int) : Prop :=
 (∃ es16 : LL, (∃ n37 : Int, (∃ b8 : Bool, ((Fn Tryz.prog 67 [(TV.one (AV.ptr 0 0 0 110)), (TV.one (AV.fz (FV.int .i64 1)))] [(Ob.g 110 [(AV.fz (FV.sl 1 o)), (AV.fz (FV.int .i64 o1))])] (TV.one (AV.fz (FV.bool b8))) [(Ob.g 110 [(AV.fz (FV.sl 1 es16)), (AV.fz (FV.int .i64 n37))])]) ∧ (((b8 = true) → (∃ es17 : LL, (∃ n38 : Int, (∃ n39 : Int, ((Fn Tryz.prog 101 [(TV.one (AV.ptr 0 0 0 110)), (TV.one (AV.fz (FV.int .i64 0)))] [(Ob.g 110 [(AV.fz (FV.sl 1 es16)), (AV.fz (FV.int .i64 n37))])] (TV.one (AV.fz (FV.int .i64 n39))) [(Ob.g 110 [(AV.fz (FV.sl 1 es17)), (AV.fz (FV.int .i64 n38))])]) ∧ ((((n39 != 59) = true) → ((((decide ((IntKind.wrap .i64 (n38 - p)) < 7)) = true) → (token_scanner_hexO_L0 R p es17 (IntKind.wrap .i64 (n38 + 1)))) ∧ (((decide ((IntKind.wrap .i64 (n38 - p)) < 7)) = false) → (∃ es18 : LL, (∃ n40 : Int, (∃ n41 : Int, ((Fn Tryz.prog 101 [(TV.one (AV.ptr 0 0 0 110)), (TV.one (AV.fz (FV.int .i64 0)))] [(Ob.g 110 [(AV.fz (FV.sl 1 es17)), (AV.fz (FV.int .i64 n38))])] (TV.one (AV.fz (FV.int .i64 n41))) [(Ob.g 110 [(AV.fz (FV.sl 1 es18)), (AV.fz (FV.int .i64 n40))])]) ∧ ((((n41 != 59) = true) → (R (TV.one (AV.fz (FV.int .i64 (-1)))) [(Ob.g 110 [(AV.fz (FV.sl 1 es18)), (AV.fz (FV.int .i64 n40))])])) ∧ (((n41 != 59) = false) → ((((n40 == p) = true) → (R (TV.one (AV.fz (FV.int .i64 (-1)))) [(Ob.g 110 [(AV.fz (FV.sl 1 es18)), (AV.fz (FV.int .i64 n40))])])) ∧ (((n40 == p) = false) → ((((0 : Int) ≤ p) ∧ ((p ≤ n40) ∧ (n40 ≤ (((List.length es18) : Nat) : Int)))) ∧ (∃ es19 : LL, (∃ n42 : Int, ((Fn Tryz.prog 157 [(TV.one (AV.fz (FV.sl 1 (List.drop (Int.toNat p) (List.take (Int.toNat n40) es18)))))] [] (TV.tup [(false, [(AV.fz (FV.sl 1 es19))]), (false, [(AV.fz (FV.int .i64 n42))])]) []) ∧ (∃ ns6 : List Int, ((es19 = (List.map (fun n43 => [(FV.int .u8 n43)]) ns6)) ∧ ((((ByteArray.size (ByteArray.mk #[120])) + (ByteArray.size (bytesOf ns6))) ≤ 9223372036854775807) ∧ (∃ n44 : Int, (∃ b9 : Bool, ((Fn Tryz.prog 159 [(TV.one (AV.fz (FV.str ((ByteArray.mk #[120]) ++ (bytesOf ns6)))))] [] (TV.tup [(false, [(AV.fz (FV.int .i64 n44))]), (false, [(AV.fz (FV.bool b9))])]) []) ∧ ((((Bool.not b9) = true) → (R (TV.one (AV.fz (FV.int .i64 (-1)))) [(Ob.g 110 [(AV.fz (FV.sl 1 es18)), (AV.fz (FV.int .i64 (IntKind.wrap .i64 (n40 + 1))))])])) ∧ (((Bool.not b9) = false) → (R (TV.one (AV.fz (FV.int .i64 n44))) [(Ob.g 110 [(AV.fz (FV.sl 1 es18)), (AV.fz (FV.int .i64 (IntKind.wrap .i64 (n40 + 1))))])])))))))))))))))))))))))) ∧ (((n39 != 59) = false) → (∃ es20 : LL, (∃ n45 : Int, (∃ n46 : Int, ((Fn Tryz.prog 101 [(TV.one (AV.ptr 0 0 0 110)), (TV.one (AV.fz (FV.int .i64 0)))] [(Ob.g 110 [(AV.fz (FV.sl 1 es17)), (AV.fz (FV.int .i64 n38))])] (TV.one (AV.fz (FV.int .i64 n46))) [(Ob.g 110 [(AV.fz (FV.sl 1 es20)), (AV.fz (FV.int .i64 n45))])]) ∧ ((((n46 != 59) = true) → (R (TV.one (AV.fz (FV.int .i64 (-1)))) [(Ob.g 110 [(AV.fz (FV.sl 1 es20)), (AV.fz (FV.int .i64 n45))])])) ∧ (((n46 != 59) = false) → ((((n45 == p) = true) → (R (TV.one (AV.fz (FV.int .i64 (-1)))) [(Ob.g 110 [(AV.fz (FV.sl 1 es20)), (AV.fz (FV.int .i64 n45))])])) ∧ (((n45 == p) = false) → ((((0 : Int) ≤ p) ∧ ((p ≤ n45) ∧ (n45 ≤ (((List.length es20) : Nat) : Int)))) ∧ (∃ es21 : LL, (∃ n47 : Int, ((Fn Tryz.prog 157 [(TV.one (AV.fz (FV.sl 1 (List.drop (Int.toNat p) (List.take (Int.toNat n45) es20)))))] [] (TV.tup [(false, [(AV.fz (FV.sl 1 es21))]), (false, [(AV.fz (FV.int .i64 n47))])]) []) ∧ (∃ ns7 : List Int, ((es21 = (List.map (fun n48 => [(FV.int .u8 n48)]) ns7)) ∧ ((((ByteArray.size (ByteArray.mk #[120])) + (ByteArray.size (bytesOf ns7))) ≤ 9223372036854775807) ∧ (∃ n49 : Int, (∃ b10 : Bool, ((Fn Tryz.prog 159 [(TV.one (AV.fz (FV.str ((ByteArray.mk #[120]) ++ (bytesOf ns7)))))] [] (TV.tup [(false, [(AV.fz (FV.int .i64 n49))]), (false, [(AV.fz (FV.bool b10))])]) []) ∧ ((((Bool.not b10) = true) → (R (TV.one (AV.fz (FV.int .i64 (-1)))) [(Ob.g 110 [(AV.fz (FV.sl 1 es20)), (AV.fz (FV.int .i64 (IntKind.wrap .i64 (n45 + 1))))])])) ∧ (((Bool.not b10) = false) → (R (TV.one (AV.fz (FV.int .i64 n49))) [(Ob.g 110 [(AV.fz (FV.sl 1 es20)), (AV.fz (FV.int .i64 (IntKind.wrap .i64 (n45 + 1))))])])))))))))))))))))))))))))))) ∧ ((b8 = false) → (∃ es22 : LL, (∃ n50 : Int, (∃ n51 : Int, ((Fn Tryz.prog 101 [(TV.one (AV.ptr 0 0 0 110)), (TV.one (AV.fz (FV.int .i64 0)))] [(Ob.g 110 [(AV.fz (FV.sl 1 es16)), (AV.fz (FV.int .i64 n37))])] (TV.one (AV.fz (FV.int .i64 n51))) [(Ob.g 110 [(AV.fz (FV.sl 1 es22)), (AV.fz (FV.int .i64 n50))])]) ∧ ((((n51 != 59) = true) → (R (TV.one (AV.fz (FV.int .i64 (-1)))) [(Ob.g 110 [(AV.fz (FV.sl 1 es22)), (AV.fz (FV.int .i64 n50))])])) ∧ (((n51 != 59) = false) → ((((n50 == p) = true) → (R (TV.one (AV.fz (FV.int .i64 (-1)))) [(Ob.g 110 [(AV.fz (FV.sl 1 es22)), (AV.fz (FV.int .i64 n50))])])) ∧ (((n50 == p) = false) → ((((0 : Int) ≤ p) ∧ ((p ≤ n50) ∧ (n50 ≤ (((List.length es22) : Nat) : Int)))) ∧ (∃ es23 : LL, (∃ n52 : Int, ((Fn Tryz.prog 157 [(TV.one (AV.fz (FV.sl 1 (List.drop (Int.toNat p) (List.take (Int.toNat n50) es22)))))] [] (TV.tup [(false, [(AV.fz (FV.sl 1 es23))]), (false, [(AV.fz (FV.int .i64 n52))])]) []) ∧ (∃ ns8 : List Int, ((es23 = (List.map (fun n53 => [(FV.int .u8 n53)]) ns8)) ∧ ((((ByteArray.size (ByteArray.mk #[120])) + (ByteArray.size (bytesOf ns8))) ≤ 9223372036854775807) ∧ (∃ n54 : Int, (∃ b11 : Bool, ((Fn Tryz.prog 159 [(TV.one (AV.fz (FV.str ((ByteArray.mk #[120]) ++ (bytesOf ns8)))))] [] (TV.tup [(false, [(AV.fz (FV.int .i64 n54))]), (false, [(AV.fz (FV.bool b11))])]) []) ∧ ((((Bool.not b11) = true) → (R (TV.one (AV.fz (FV.int .i64 (-1)))) [(Ob.g 110 [(AV.fz (FV.sl 1 es22)), (AV.fz (FV.int .i64 (IntKind.wrap .i64 (n50 + 1))))])])) ∧ (((Bool.not b11) = false) → (R (TV.one (AV.fz (FV.int .i64 n54))) [(Ob.g 110 [(AV.fz (FV.sl 1 es22)), (AV.fz (FV.int .i64 (IntKind.wrap .i64 (n50 + 1))))])])))))))))))))))))))))))))))
theorem token_scanner_hexO_l0 {R : TV → List Ob → Prop} {p : Int} {o : LL} {o1 : Int} (h : token_scanner_hexO_R0 R p o o1) : token_scanner_hexO_L0 R p o o1 :=
 LoopAt.by_tr (by kernel_rfl) (by kernel_rfl) h
def token_scanner_hexO_H (R : TV → List Ob → Prop) (tx : List (List FV)) (p : Int) : Prop :=
 (token_scanner_hexO_L0 R p tx p)
theorem token_scanner_hexO_fn (tx : LL) (p : Int) {r : TV} {h : List Ob} (H : token_scanner_hexO_H (fun r' h' => r' = r ∧ Wk h' h) tx p) : Fn Tryz.prog 184 [(TV.one (AV.ptr 0 0 0 110))] [(Ob.g 110 [(AV.fz (FV.sl 1 tx)), (AV.fz (FV.int .i64 p))])] r h :=
 Fn.by_trW (M := (modeOf [] [(67, [(Sig.mk 1 [(false, [(AT.k CK.bool)])] [(OT.g 110 [(AT.k (CK.sl 1)), (AT.k (CK.int .i64))])] 0)]), (101, [(Sig.mk 1 [(false, [(AT.k (CK.int .i64))])] [(OT.g 110 [(AT.k (CK.sl 1)), (AT.k (CK.int .i64))])] 0)])])) (lv := token_scanner_hexO_lv) (own := (some 1)) (F := Tryz.f184) (by kernel_rfl) (by kernel_rfl) (by first | decide | simp) (fun _ _ h => h) (by kernel_rfl) H
def token_scanner_escapeO_lv : List Nat → Keep := lvOf []
def token_scanner_escapeO_H (R : TV → List Ob → Prop) (tx : List (List FV)) (p : Int) : Prop :=
 (∃ es2 : LL, (∃ n4 : Int, (∃ n5 : Int, ((Fn Tryz.prog 101 [(TV.one (AV.ptr 0 0 0 110)), (TV.one (AV.fz (FV.int .i64 0)))] [(Ob.g 110 [(AV.fz (FV.sl 1 tx)), (AV.fz (FV.int .i64 p))])] (TV.one (AV.fz (FV.int .i64 n5))) [(Ob.g 110 [(AV.fz (FV.sl 1 es2)), (AV.fz (FV.int .i64 n4))])]) ∧ ((((n5 == 110) = true) → (R (TV.one (AV.fz (FV.int .i64 10))) [(Ob.g 110 [(AV.fz (FV.sl 1 es2)), (AV.fz (FV.int .i64 (IntKind.wrap .i64 (n4 + 1))))])])) ∧ (((n5 == 110) = false) → ((((n5 == 114) = true) → (R (TV.one (AV.fz (FV.int .i64 13))) [(Ob.g 110 [(AV.fz (FV.sl 1 es2)), (AV.fz (FV.int .i64 (IntKind.wrap .i64 (n4 + 1))))])])) ∧ (((n5 == 114) = false) → ((((n5 == 116) = true) → (R (TV.one (AV.fz (FV.int .i64 9))) [(Ob.g 110 [(AV.fz (FV.sl 1 es2)), (AV.fz (FV.int .i64 (IntKind.wrap .i64 (n4 + 1))))])])) ∧ (((n5 == 116) = false) → ((((n5 == 92) = true) → (R (TV.one (AV.fz (FV.int .i64 n5))) [(Ob.g 110 [(AV.fz (FV.sl 1 es2)), (AV.fz (FV.int .i64 (IntKind.wrap .i64 (n4 + 1))))])])) ∧ (((n5 == 92) = false) → ((((n5 == 34) = true) → (R (TV.one (AV.fz (FV.int .i64 n5))) [(Ob.g 110 [(AV.fz (FV.sl 1 es2)), (AV.fz (FV.int .i64 (IntKind.wrap .i64 (n4 + 1))))])])) ∧ (((n5 == 34) = false) → ((((n5 == 120) = true) → (∃ es3 : LL, (∃ n6 : Int, (∃ n7 : Int, ((Fn Tryz.prog 184 [(TV.one (AV.ptr 0 0 0 110))] [(Ob.g 110 [(AV.fz (FV.sl 1 es2)), (AV.fz (FV.int .i64 (IntKind.wrap .i64 (n4 + 1))))])] (TV.one (AV.fz (FV.int .i64 n7))) [(Ob.g 110 [(AV.fz (FV.sl 1 es3)), (AV.fz (FV.int .i64 n6))])]) ∧ (R (TV.one (AV.fz (FV.int .i64 n7))) [(Ob.g 110 [(AV.fz (FV.sl 1 es3)), (AV.fz (FV.int .i64 n6))])])))))) ∧ (((n5 == 120) = false) → (R (TV.one (AV.fz (FV.int .i64 (-1)))) [(Ob.g 110 [(AV.fz (FV.sl 1 es2)), (AV.fz (FV.int .i64 (IntKind.wrap .i64 (n4 + 1))))])])))))))))))))))))
theorem token_scanner_escapeO_fn (tx : LL) (p : Int) {r : TV} {h : List Ob} (H : token_scanner_escapeO_H (fun r' h' => r' = r ∧ Wk h' h) tx p) : Fn Tryz.prog 158 [(TV.one (AV.ptr 0 0 0 110))] [(Ob.g 110 [(AV.fz (FV.sl 1 tx)), (AV.fz (FV.int .i64 p))])] r h :=
 Fn.by_trW (M := (modeOf [] [(101, [(Sig.mk 1 [(false, [(AT.k (CK.int .i64))])] [(OT.g 110 [(AT.k (CK.sl 1)), (AT.k (CK.int .i64))])] 0)]), (184, [(Sig.mk 1 [(false, [(AT.k (CK.int .i64))])] [(OT.g 110 [(AT.k (CK.sl 1)), (AT.k (CK.int .i64))])] 0)])])) (lv := token_scanner_escapeO_lv) (own := (some 1)) (F := Tryz.f158) (by kernel_rfl) (by kernel_rfl) (by first | decide | simp) (fun _ _ h => h) (by kernel_rfl) H
def token_scanner_strO_lv : List Nat → Keep := lvOf [([0, 0, 1, 1], ⟨17, 0, [], false, false⟩)]
def token_scanner_strO_S0 (o : LL) (o1 : Int) (o2 : LL) : St := (St.mk [(TV.one (AV.ptr 0 0 0 110)), TV.und, TV.und, TV.und, (TV.one (AV.ofl 1 1)), TV.und, TV.und, TV.und, TV.und, TV.und, TV.und, TV.und, TV.und, TV.und, TV.und, TV.und, TV.und, TV.und, TV.und, TV.und, TV.und, TV.und, TV.und, TV.und, TV.und, TV.und, TV.und, TV.und, TV.und, TV.und, TV.und, TV.und, TV.und, TV.und, TV.und, TV.und, TV.und, TV.und, TV.und, TV.und, TV.und, TV.und] [(Ob.g 110 [(AV.fz (FV.sl 1 o)), (AV.fz (FV.int .i64 o1))]), (Ob.f 0 1 o2)])
def token_scanner_strO_L0 (R : TV → List Ob → Prop) (o : LL) (o1 : Int) (o2 : LL) : Prop := LoopAt Tryz.prog (modeOf [] [(67, [(Sig.mk 1 [(false, [(AT.k CK.bool)])] [(OT.g 110 [(AT.k (CK.sl 1)), (AT.k (CK.int .i64))])] 0)]), (101, [(Sig.mk 1 [(false, [(AT.k (CK.int .i64))])] [(OT.g 110 [(AT.k (CK.sl 1)), (AT.k (CK.int .i64))])] 0)]), (158, [(Sig.mk 1 [(false, [(AT.k (CK.int .i64))])] [(OT.g 110 [(AT.k (CK.sl 1)), (AT.k (CK.int .i64))])] 0)])]) token_scanner_strO_lv Tryz.f132 (some 1) R [1, 1, 0, 0] (token_scanner_strO_S0 o o1 o2)
def token_scanner_strO_R0 (R : TV → List Ob → Prop) (o : List (List FV)) (o1 : Int) (o2 : List (List FV)) : Prop :=
 (∃ es8 : LL, (∃ n15 : Int, (∃ b2 : Bool, ((Fn Tryz.prog 67 [(TV.one (AV.ptr 0 0 0 110)), (TV.one (AV.fz (FV.int .i64 1)))] [(Ob.g 110 [(AV.fz (FV.sl 1 o)), (AV.fz (FV.int .i64 o1))])] (TV.one (AV.fz (FV.bool b2))) [(Ob.g 110 [(AV.fz (FV.sl 1 es8)), (AV.fz (FV.int .i64 n15))])]) ∧ (((b2 = true) → (∃ es9 : LL, (∃ n16 : Int, (∃ n17 : Int, ((Fn Tryz.prog 101 [(TV.one (AV.ptr 0 0 0 110)), (TV.one (AV.fz (FV.int .i64 0)))] [(Ob.g 110 [(AV.fz (FV.sl 1 es8)), (AV.fz (FV.int .i64 n15))])] (TV.one (AV.fz (FV.int .i64 n17))) [(Ob.g 110 [(AV.fz (FV.sl 1 es9)), (AV.fz (FV.int .i64 n16))])]) ∧ ((((n17 == 34) = true) → (∃ es10 : LL, (∃ n18 : Int, ((Fn Tryz.prog 157 [(TV.one (AV.fz (FV.sl 1 o2)))] [] (TV.tup [(false, [(AV.fz (FV.sl 1 es10))]), (false, [(AV.fz (FV.int .i64 n18))])]) []) ∧ (∃ ns2 : List Int, ((es10 = (List.map (fun n19 => [(FV.int .u8 n19)]) ns2)) ∧ (R (TV.tup [(false, [(AV.fz (FV.str (bytesOf ns2)))]), (false, [(AV.fz (FV.bool (decide ((((List.length o2) : Nat) : Int) ≤ 4096))))])]) [(Ob.g 110 [(AV.fz (FV.sl 1 es9)), (AV.fz (FV.int .i64 (IntKind.wrap .i64 (n16 + 1))))])]))))))) ∧ (((n17 == 34) = false) → ((((n17 == 92) = true) → (∃ es11 : LL, (∃ n20 : Int, (∃ n21 : Int, ((Fn Tryz.prog 158 [(TV.one (AV.ptr 0 0 0 110))] [(Ob.g 110 [(AV.fz (FV.sl 1 es9)), (AV.fz (FV.int .i64 (IntKind.wrap .i64 (n16 + 1))))])] (TV.one (AV.fz (FV.int .i64 n21))) [(Ob.g 110 [(AV.fz (FV.sl 1 es11)), (AV.fz (FV.int .i64 n20))])]) ∧ ((((decide (n21 < 0)) = true) → (R (TV.tup [(false, [(AV.fz (FV.str (ByteArray.mk #[])))]), (false, [(AV.fz (FV.bool false))])]) [(Ob.g 110 [(AV.fz (FV.sl 1 es11)), (AV.fz (FV.int .i64 n20))])])) ∧ (((decide (n21 < 0)) = false) → (((((List.length o2) + (List.length [[(FV.int .i64 n21)]])) * 8) ≤ 220000000000000) ∧ (token_scanner_strO_L0 R es11 n20 (o2 ++ [[(FV.int .i64 n21)]])))))))))) ∧ (((n17 == 92) = false) → (((((List.length o2) + (List.length [[(FV.int .i64 n17)]])) * 8) ≤ 220000000000000) ∧ (token_scanner_strO_L0 R es9 (IntKind.wrap .i64 (n16 + 1)) (o2 ++ [[(FV.int .i64 n17)]])))))))))))) ∧ ((b2 = false) → (R (TV.tup [(false, [(AV.fz (FV.str (ByteArray.mk #[])))]), (false, [(AV.fz (FV.bool false))])]) [(Ob.g 110 [(AV.fz (FV.sl 1 es8)), (AV.fz (FV.int .i64 n15))])])))))))
theorem token_scanner_strO_l0 {R : TV → List Ob → Prop} {o : LL} {o1 : Int} {o2 : LL} (h : token_scanner_strO_R0 R o o1 o2) : token_scanner_strO_L0 R o o1 o2 :=
 LoopAt.by_tr (by kernel_rfl) (by kernel_rfl) h
def token_scanner_strO_H (R : TV → List Ob → Prop) (tx : List (List FV)) (p : Int) : Prop :=
 (token_scanner_strO_L0 R tx p ([] : List (List FV)))
theorem token_scanner_strO_fn (tx : LL) (p : Int) {r : TV} {h : List Ob} (H : token_scanner_strO_H (fun r' h' => r' = r ∧ Wk h' h) tx p) : Fn Tryz.prog 132 [(TV.one (AV.ptr 0 0 0 110))] [(Ob.g 110 [(AV.fz (FV.sl 1 tx)), (AV.fz (FV.int .i64 p))])] r h :=
 Fn.by_trW (M := (modeOf [] [(67, [(Sig.mk 1 [(false, [(AT.k CK.bool)])] [(OT.g 110 [(AT.k (CK.sl 1)), (AT.k (CK.int .i64))])] 0)]), (101, [(Sig.mk 1 [(false, [(AT.k (CK.int .i64))])] [(OT.g 110 [(AT.k (CK.sl 1)), (AT.k (CK.int .i64))])] 0)]), (158, [(Sig.mk 1 [(false, [(AT.k (CK.int .i64))])] [(OT.g 110 [(AT.k (CK.sl 1)), (AT.k (CK.int .i64))])] 0)])])) (lv := token_scanner_strO_lv) (own := (some 1)) (F := Tryz.f132) (by kernel_rfl) (by kernel_rfl) (by first | decide | simp) (fun _ _ h => h) (by kernel_rfl) H
def token_scanner_charO_lv : List Nat → Keep := lvOf []
def token_scanner_charO_H (R : TV → List Ob → Prop) (tx : List (List FV)) (p : Int) : Prop :=
 (∃ es3 : LL, (∃ n6 : Int, (∃ b2 : Bool, ((Fn Tryz.prog 67 [(TV.one (AV.ptr 0 0 0 110)), (TV.one (AV.fz (FV.int .i64 1)))] [(Ob.g 110 [(AV.fz (FV.sl 1 tx)), (AV.fz (FV.int .i64 p))])] (TV.one (AV.fz (FV.bool b2))) [(Ob.g 110 [(AV.fz (FV.sl 1 es3)), (AV.fz (FV.int .i64 n6))])]) ∧ ((((Bool.not b2) = true) → (R (TV.tup [(false, [(AV.fz (FV.str (ByteArray.mk #[])))]), (false, [(AV.fz (FV.bool false))])]) [(Ob.g 110 [(AV.fz (FV.sl 1 es3)), (AV.fz (FV.int .i64 n6))])])) ∧ (((Bool.not b2) = false) → (∃ es4 : LL, (∃ n7 : Int, (∃ s1 : ByteArray, ((Fn Tryz.prog 134 [(TV.one (AV.ptr 0 0 0 110)), (TV.one (AV.fz (FV.int .i64 1)))] [(Ob.g 110 [(AV.fz (FV.sl 1 es3)), (AV.fz (FV.int .i64 n6))])] (TV.one (AV.fz (FV.str s1))) [(Ob.g 110 [(AV.fz (FV.sl 1 es4)), (AV.fz (FV.int .i64 n7))])]) ∧ (∃ n8 : Int, (∃ b3 : Bool, ((Fn Tryz.prog 159 [(TV.one (AV.fz (FV.str s1)))] [] (TV.tup [(false, [(AV.fz (FV.int .i64 n8))]), (false, [(AV.fz (FV.bool b3))])]) []) ∧ (∃ es5 : LL, (∃ n9 : Int, ((Fn Tryz.prog 157 [(TV.one (AV.fz (FV.sl 1 [[(FV.int .i64 n8)]])))] [] (TV.tup [(false, [(AV.fz (FV.sl 1 es5))]), (false, [(AV.fz (FV.int .i64 n9))])]) []) ∧ (∃ ns1 : List Int, ((es5 = (List.map (fun n10 => [(FV.int .u8 n10)]) ns1)) ∧ (R (TV.tup [(false, [(AV.fz (FV.str (bytesOf ns1)))]), (false, [(AV.fz (FV.bool b3))])]) [(Ob.g 110 [(AV.fz (FV.sl 1 es4)), (AV.fz (FV.int .i64 n7))])])))))))))))))))))))
theorem token_scanner_charO_fn (tx : LL) (p : Int) {r : TV} {h : List Ob} (H : token_scanner_charO_H (fun r' h' => r' = r ∧ Wk h' h) tx p) : Fn Tryz.prog 133 [(TV.one (AV.ptr 0 0 0 110))] [(Ob.g 110 [(AV.fz (FV.sl 1 tx)), (AV.fz (FV.int .i64 p))])] r h :=
 Fn.by_trW (M := (modeOf [] [(67, [(Sig.mk 1 [(false, [(AT.k CK.bool)])] [(OT.g 110 [(AT.k (CK.sl 1)), (AT.k (CK.int .i64))])] 0)]), (134, [(Sig.mk 1 [(false, [(AT.k CK.str)])] [(OT.g 110 [(AT.k (CK.sl 1)), (AT.k (CK.int .i64))])] 0)])])) (lv := token_scanner_charO_lv) (own := (some 1)) (F := Tryz.f133) (by kernel_rfl) (by kernel_rfl) (by first | decide | simp) (fun _ _ h => h) (by kernel_rfl) H
def token_scanner_datumO_lv : List Nat → Keep := lvOf []
def token_scanner_datumO_H (R : TV → List Ob → Prop) (tx : List (List FV)) (p : Int) : Prop :=
 (∃ es7 : LL, (∃ n7 : Int, (∃ b6 : Bool, ((Fn Tryz.prog 103 [(TV.one (AV.ptr 0 0 0 110)), (TV.one (AV.fz (FV.str (ByteArray.mk #[34]))))] [(Ob.g 110 [(AV.fz (FV.sl 1 tx)), (AV.fz (FV.int .i64 p))])] (TV.one (AV.fz (FV.bool b6))) [(Ob.g 110 [(AV.fz (FV.sl 1 es7)), (AV.fz (FV.int .i64 n7))])]) ∧ (((b6 = true) → (∃ es8 : LL, (∃ n8 : Int, (∃ s4 : ByteArray, (∃ b7 : Bool, ((Fn Tryz.prog 132 [(TV.one (AV.ptr 0 0 0 110))] [(Ob.g 110 [(AV.fz (FV.sl 1 es7)), (AV.fz (FV.int .i64 (IntKind.wrap .i64 (n7 + 1))))])] (TV.tup [(false, [(AV.fz (FV.str s4))]), (false, [(AV.fz (FV.bool b7))])]) [(Ob.g 110 [(AV.fz (FV.sl 1 es8)), (AV.fz (FV.int .i64 n8))])]) ∧ (R (TV.tup [(true, [(AV.fz (FV.int .i64 5)), (AV.fz (FV.str s4)), (AV.fz (FV.bool false)), (AV.ofl 1 1), (AV.ofl 6 2), (AV.fz (FV.int .i64 0))]), (false, [(AV.fz (FV.bool b7))])]) [(Ob.g 110 [(AV.fz (FV.sl 1 es8)), (AV.fz (FV.int .i64 n8))]), (Ob.f 0 1 ([] : LL)), (Ob.f 0 6 ([] : LL))]))))))) ∧ ((b6 = false) → (∃ es9 : LL, (∃ n9 : Int, (∃ b8 : Bool, ((Fn Tryz.prog 103 [(TV.one (AV.ptr 0 0 0 110)), (TV.one (AV.fz (FV.str (ByteArray.mk #[35, 92]))))] [(Ob.g 110 [(AV.fz (FV.sl 1 es7)), (AV.fz (FV.int .i64 n7))])] (TV.one (AV.fz (FV.bool b8))) [(Ob.g 110 [(AV.fz (FV.sl 1 es9)), (AV.fz (FV.int .i64 n9))])]) ∧ (((b8 = true) → (∃ es10 : LL, (∃ n10 : Int, (∃ s5 : ByteArray, (∃ b9 : Bool, ((Fn Tryz.prog 133 [(TV.one (AV.ptr 0 0 0 110))] [(Ob.g 110 [(AV.fz (FV.sl 1 es9)), (AV.fz (FV.int .i64 (IntKind.wrap .i64 (n9 + 2))))])] (TV.tup [(false, [(AV.fz (FV.str s5))]), (false, [(AV.fz (FV.bool b9))])]) [(Ob.g 110 [(AV.fz (FV.sl 1 es10)), (AV.fz (FV.int .i64 n10))])]) ∧ (R (TV.tup [(true, [(AV.fz (FV.int .i64 6)), (AV.fz (FV.str s5)), (AV.fz (FV.bool false)), (AV.ofl 1 1), (AV.ofl 6 2), (AV.fz (FV.int .i64 0))]), (false, [(AV.fz (FV.bool b9))])]) [(Ob.g 110 [(AV.fz (FV.sl 1 es10)), (AV.fz (FV.int .i64 n10))]), (Ob.f 0 1 ([] : LL)), (Ob.f 0 6 ([] : LL))]))))))) ∧ ((b8 = false) → (∃ es11 : LL, (∃ n11 : Int, (∃ s6 : ByteArray, ((Fn Tryz.prog 134 [(TV.one (AV.ptr 0 0 0 110)), (TV.one (AV.fz (FV.int .i64 0)))] [(Ob.g 110 [(AV.fz (FV.sl 1 es9)), (AV.fz (FV.int .i64 n9))])] (TV.one (AV.fz (FV.str s6))) [(Ob.g 110 [(AV.fz (FV.sl 1 es11)), (AV.fz (FV.int .i64 n11))])]) ∧ (∃ n12 : Int, (∃ s7 : ByteArray, (∃ b10 : Bool, (∃ es12 : LL, (∃ es13 : LL, (∃ n13 : Int, (∃ b11 : Bool, ((Fn Tryz.prog 110 [(TV.one (AV.fz (FV.str s6)))] [] (TV.tup [(true, [(AV.fz (FV.int .i64 n12)), (AV.fz (FV.str s7)), (AV.fz (FV.bool b10)), (AV.fz (FV.sl 1 es12)), (AV.fz (FV.sl 6 es13)), (AV.fz (FV.int .i64 n13))]), (false, [(AV.fz (FV.bool b11))])]) []) ∧ (R (TV.tup [(true, [(AV.fz (FV.int .i64 n12)), (AV.fz (FV.str s7)), (AV.fz (FV.bool b10)), (AV.fz (FV.sl 1 es12)), (AV.fz (FV.sl 6 es13)), (AV.fz (FV.int .i64 n13))]), (false, [(AV.fz (FV.bool b11))])]) [(Ob.g 110 [(AV.fz (FV.sl 1 es11)), (AV.fz (FV.int .i64 n11))])])))))))))))))))))))))))))
theorem token_scanner_datumO_fc (tx : LL) (p : Int) {r : TV} {h : List Ob} (H : token_scanner_datumO_H (fun r' h' => Cool 1 r' h' r h) tx p) : Fn Tryz.prog 105 [(TV.one (AV.ptr 0 0 0 110))] [(Ob.g 110 [(AV.fz (FV.sl 1 tx)), (AV.fz (FV.int .i64 p))])] r h :=
 Fn.by_trC (M := (modeOf [] [(103, [(Sig.mk 1 [(false, [(AT.k CK.bool)])] [(OT.g 110 [(AT.k (CK.sl 1)), (AT.k (CK.int .i64))])] 0)]), (134, [(Sig.mk 1 [(false, [(AT.k CK.str)])] [(OT.g 110 [(AT.k (CK.sl 1)), (AT.k (CK.int .i64))])] 0)]), (132, [(Sig.mk 1 [(false, [(AT.k CK.str)]), (false, [(AT.k CK.bool)])] [(OT.g 110 [(AT.k (CK.sl 1)), (AT.k (CK.int .i64))])] 0)]), (133, [(Sig.mk 1 [(false, [(AT.k CK.str)]), (false, [(AT.k CK.bool)])] [(OT.g 110 [(AT.k (CK.sl 1)), (AT.k (CK.int .i64))])] 0)])])) (lv := token_scanner_datumO_lv) (own := (some 1)) (F := Tryz.f105) (by kernel_rfl) (by kernel_rfl) (by first | decide | simp) (fun _ _ h => h) (by kernel_rfl) H
def token_Scan_1_lv : List Nat → Keep := lvOf []
def token_Scan_1_H (R : TV → List Ob → Prop) (c : Int) : Prop :=
 (∃ b1 : Bool, ((Fn Tryz.prog 64 [(TV.one (AV.fz (FV.int .i64 c)))] [] (TV.one (AV.fz (FV.bool b1))) []) ∧ (R (TV.one (AV.fz (FV.bool (Bool.not b1)))) [])))
theorem token_Scan_1_fn (c : Int) {r : TV} {h : List Ob} (H : token_Scan_1_H (fun r' h' => r' = r ∧ h' = h) c) : Fn Tryz.prog 63 [(TV.one (AV.fz (FV.int .i64 c)))] [] r h :=
 Fn.by_tr (M := (modeOf [] [])) (lv := token_Scan_1_lv) (own := none) (F := Tryz.f63) (by kernel_rfl) (by kernel_rfl) (by first | decide | simp) (fun _ _ h => h) (by kernel_rfl) H
end
section
def utf_Scalar_lv : List Nat → Keep := lvOf []
def utf_Scalar_H (R : TV → List Ob → Prop) (c : Int) : Prop :=
 ((((decide ((0 : Int) ≤ c)) = true) → ((((decide (c ≤ 1114111)) = true) → (∃ b1 : Bool, ((Fn Tryz.prog 100 [(TV.one (AV.fz (FV.int .i32 (IntKind.wrap .i32 c))))] [] (TV.one (AV.fz (FV.bool b1))) []) ∧ (R (TV.one (AV.fz (FV.bool b1))) [])))) ∧ (((decide (c ≤ 1114111)) = false) → (R (TV.one (AV.fz (FV.bool false))) [])))) ∧ (((decide ((0 : Int) ≤ c)) = false) → (R (TV.one (AV.fz (FV.bool false))) [])))
theorem utf_Scalar_fn (c : Int) {r : TV} {h : List Ob} (H : utf_Scalar_H (fun r' h' => r' = r ∧ h' = h) c) : Fn Tryz.prog 64 [(TV.one (AV.fz (FV.int .i64 c)))] [] r h :=
 Fn.by_tr (M := (modeOf [] [])) (lv := utf_Scalar_lv) (own := none) (F := Tryz.f64) (by kernel_rfl) (by kernel_rfl) (by first | decide | simp) (fun _ _ h => h) (by kernel_rfl) H
def utf_Named_lv : List Nat → Keep := lvOf [([0, 1, 0, 1], ⟨12289, 0, [], false, false⟩)]
def utf_Named_S0 (s : ByteArray) (i : Int) : St := (St.mk [(TV.one (AV.fz (FV.str s))), TV.und, TV.und, TV.und, TV.und, TV.und, TV.und, TV.und, TV.und, TV.und, TV.und, TV.und, (TV.agg [(AV.fz (FV.int .i64 32)), (AV.fz (FV.str (ByteArray.mk #[115, 112, 97, 99, 101]))), (AV.fz (FV.int .i64 10)), (AV.fz (FV.str (ByteArray.mk #[110, 101, 119, 108, 105, 110, 101]))), (AV.fz (FV.int .i64 9)), (AV.fz (FV.str (ByteArray.mk #[116, 97, 98]))), (AV.fz (FV.int .i64 13)), (AV.fz (FV.str (ByteArray.mk #[114, 101, 116, 117, 114, 110]))), (AV.fz (FV.int .i64 0)), (AV.fz (FV.str (ByteArray.mk #[110, 117, 108, 108]))), (AV.fz (FV.int .i64 127)), (AV.fz (FV.str (ByteArray.mk #[100, 101, 108, 101, 116, 101])))]), (TV.one (AV.fz (FV.int .i64 i))), TV.und, TV.und, TV.und, TV.und, TV.und, TV.und, TV.und, TV.und, TV.und, TV.und, TV.und, TV.und, TV.und, TV.und, TV.und, TV.und, TV.und, TV.und, TV.und, TV.und, TV.und, TV.und, TV.und, TV.und, TV.und, TV.und, TV.und, TV.und, TV.und, TV.und, TV.und, TV.und, TV.und, TV.und, TV.und, TV.und, TV.und, TV.und, TV.und, TV.und, TV.und, TV.und, TV.und, TV.und, TV.und, TV.und, TV.und, TV.und, TV.und, TV.und, TV.und, TV.und, TV.und, TV.und, TV.und, TV.und, TV.und, TV.und, TV.und, TV.und, TV.und, TV.und, TV.und, TV.und] [])
def utf_Named_L0 (R : TV → List Ob → Prop) (s : ByteArray) (i : Int) : Prop := LoopAt Tryz.prog (modeOf [] []) utf_Named_lv Tryz.f159 none R [1, 0, 1, 0] (utf_Named_S0 s i)
def utf_Named_R0 (R : TV → List Ob → Prop) (s : ByteArray) (i : Int) : Prop :=
 ((((decide (i < 6)) = true) → ((((0 : Int) ≤ i) ∧ (i < 6)) ∧ (∃ n12 : Int, (∃ s15 : ByteArray, ((cutT [(AV.fz (FV.int .i64 32)), (AV.fz (FV.str (ByteArray.mk #[115, 112, 97, 99, 101]))), (AV.fz (FV.int .i64 10)), (AV.fz (FV.str (ByteArray.mk #[110, 101, 119, 108, 105, 110, 101]))), (AV.fz (FV.int .i64 9)), (AV.fz (FV.str (ByteArray.mk #[116, 97, 98]))), (AV.fz (FV.int .i64 13)), (AV.fz (FV.str (ByteArray.mk #[114, 101, 116, 117, 114, 110]))), (AV.fz (FV.int .i64 0)), (AV.fz (FV.str (ByteArray.mk #[110, 117, 108, 108]))), (AV.fz (FV.int .i64 127)), (AV.fz (FV.str (ByteArray.mk #[100, 101, 108, 101, 116, 101])))] ((Int.toNat i) * 2) 2 [(FV.int .i64 n12), (FV.str s15)]) ∧ (((((ByteArray.toList s15) == (ByteArray.toList s)) = true) → (R (TV.tup [(false, [(AV.fz (FV.int .i64 n12))]), (false, [(AV.fz (FV.bool true))])]) [])) ∧ ((((ByteArray.toList s15) == (ByteArray.toList s)) = false) → (utf_Named_L0 R s (IntKind.wrap .i64 (i + 1)))))))))) ∧ (((decide (i < 6)) = false) → (∃ n13 : Int, (∃ n14 : Int, ((Fn Tryz.prog 87 [(TV.one (AV.fz (FV.str s)))] [] (TV.tup [(false, [(AV.fz (FV.int .i32 n13))]), (false, [(AV.fz (FV.int .i64 n14))])]) []) ∧ ((((n14 == (((ByteArray.size s) : Nat) : Int)) = true) → ((((decide ((0 : Int) < n14)) = true) → ((((n13 != 65533) = true) → (R (TV.tup [(false, [(AV.fz (FV.int .i64 (IntKind.wrap .i64 n13)))]), (false, [(AV.fz (FV.bool true))])]) [])) ∧ (((n13 != 65533) = false) → ((((decide ((1 : Int) < n14)) = true) → (R (TV.tup [(false, [(AV.fz (FV.int .i64 (IntKind.wrap .i64 n13)))]), (false, [(AV.fz (FV.bool true))])]) [])) ∧ (((decide ((1 : Int) < n14)) = false) → (∃ s16 : ByteArray, (∃ b18 : Bool, ((Fn Tryz.prog 185 [(TV.one (AV.fz (FV.str s))), (TV.one (AV.fz (FV.str (ByteArray.mk #[120]))))] [] (TV.tup [(false, [(AV.fz (FV.str s16))]), (false, [(AV.fz (FV.bool b18))])]) []) ∧ ((((Bool.not b18) = true) → (R (TV.tup [(false, [(AV.fz (FV.int .i64 0))]), (false, [(AV.fz (FV.bool false))])]) [])) ∧ (((Bool.not b18) = false) → ((((decide ((6 : Int) < (((ByteArray.size s16) : Nat) : Int))) = true) → (R (TV.tup [(false, [(AV.fz (FV.int .i64 0))]), (false, [(AV.fz (FV.bool false))])]) [])) ∧ (((decide ((6 : Int) < (((ByteArray.size s16) : Nat) : Int))) = false) → (∃ s17 : ByteArray, ((Fn Tryz.prog 161 [(TV.one (AV.fz (FV.str s16))), (TV.one (AV.fz (FV.str (ByteArray.mk #[48, 49, 50, 51, 52, 53, 54, 55, 56, 57, 97, 98, 99, 100, 101, 102, 65, 66, 67, 68, 69, 70]))))] [] (TV.one (AV.fz (FV.str s17))) []) ∧ ((((Bool.not ((ByteArray.toList s17) == (ByteArray.toList (ByteArray.mk #[])))) = true) → (R (TV.tup [(false, [(AV.fz (FV.int .i64 0))]), (false, [(AV.fz (FV.bool false))])]) [])) ∧ (((Bool.not ((ByteArray.toList s17) == (ByteArray.toList (ByteArray.mk #[])))) = false) → (∃ n15 : Int, (∃ b19 : Bool, ((Fn Tryz.prog 186 [(TV.one (AV.fz (FV.str s16))), (TV.one (AV.fz (FV.int .i64 16))), (TV.one (AV.fz (FV.int .i64 32)))] [] (TV.tup [(false, [(AV.fz (FV.int .u64 n15))]), (false, [(AV.fz (FV.ifc b19))])]) []) ∧ ((((Bool.not (Bool.not b19)) = true) → (R (TV.tup [(false, [(AV.fz (FV.int .i64 0))]), (false, [(AV.fz (FV.bool false))])]) [])) ∧ (((Bool.not (Bool.not b19)) = false) → (∃ b20 : Bool, ((Fn Tryz.prog 64 [(TV.one (AV.fz (FV.int .i64 (IntKind.wrap .i64 n15))))] [] (TV.one (AV.fz (FV.bool b20))) []) ∧ ((((Bool.not b20) = true) → (R (TV.tup [(false, [(AV.fz (FV.int .i64 0))]), (false, [(AV.fz (FV.bool false))])]) [])) ∧ (((Bool.not b20) = false) → (R (TV.tup [(false, [(AV.fz (FV.int .i64 (IntKind.wrap .i64 n15)))]), (false, [(AV.fz (FV.bool true))])]) [])))))))))))))))))))))))))) ∧ (((decide ((0 : Int) < n14)) = false) → (∃ s18 : ByteArray, (∃ b21 : Bool, ((Fn Tryz.prog 185 [(TV.one (AV.fz (FV.str s))), (TV.one (AV.fz (FV.str (ByteArray.mk #[120]))))] [] (TV.tup [(false, [(AV.fz (FV.str s18))]), (false, [(AV.fz (FV.bool b21))])]) []) ∧ ((((Bool.not b21) = true) → (R (TV.tup [(false, [(AV.fz (FV.int .i64 0))]), (false, [(AV.fz (FV.bool false))])]) [])) ∧ (((Bool.not b21) = false) → ((((decide ((6 : Int) < (((ByteArray.size s18) : Nat) : Int))) = true) → (R (TV.tup [(false, [(AV.fz (FV.int .i64 0))]), (false, [(AV.fz (FV.bool false))])]) [])) ∧ (((decide ((6 : Int) < (((ByteArray.size s18) : Nat) : Int))) = false) → (∃ s19 : ByteArray, ((Fn Tryz.prog 161 [(TV.one (AV.fz (FV.str s18))), (TV.one (AV.fz (FV.str (ByteArray.mk #[48, 49, 50, 51, 52, 53, 54, 55, 56, 57, 97, 98, 99, 100, 101, 102, 65, 66, 67, 68, 69, 70]))))] [] (TV.one (AV.fz (FV.str s19))) []) ∧ ((((Bool.not ((ByteArray.toList s19) == (ByteArray.toList (ByteArray.mk #[])))) = true) → (R (TV.tup [(false, [(AV.fz (FV.int .i64 0))]), (false, [(AV.fz (FV.bool false))])]) [])) ∧ (((Bool.not ((ByteArray.toList s19) == (ByteArray.toList (ByteArray.mk #[])))) = false) → (∃ n16 : Int, (∃ b22 : Bool, ((Fn Tryz.prog 186 [(TV.one (AV.fz (FV.str s18))), (TV.one (AV.fz (FV.int .i64 16))), (TV.one (AV.fz (FV.int .i64 32)))] [] (TV.tup [(false, [(AV.fz (FV.int .u64 n16))]), (false, [(AV.fz (FV.ifc b22))])]) []) ∧ ((((Bool.not (Bool.not b22)) = true) → (R (TV.tup [(false, [(AV.fz (FV.int .i64 0))]), (false, [(AV.fz (FV.bool false))])]) [])) ∧ (((Bool.not (Bool.not b22)) = false) → (∃ b23 : Bool, ((Fn Tryz.prog 64 [(TV.one (AV.fz (FV.int .i64 (IntKind.wrap .i64 n16))))] [] (TV.one (AV.fz (FV.bool b23))) []) ∧ ((((Bool.not b23) = true) → (R (TV.tup [(false, [(AV.fz (FV.int .i64 0))]), (false, [(AV.fz (FV.bool false))])]) [])) ∧ (((Bool.not b23) = false) → (R (TV.tup [(false, [(AV.fz (FV.int .i64 (IntKind.wrap .i64 n16)))]), (false, [(AV.fz (FV.bool true))])]) [])))))))))))))))))))))))) ∧ (((n14 == (((ByteArray.size s) : Nat) : Int)) = false) → (∃ s20 : ByteArray, (∃ b24 : Bool, ((Fn Tryz.prog 185 [(TV.one (AV.fz (FV.str s))), (TV.one (AV.fz (FV.str (ByteArray.mk #[120]))))] [] (TV.tup [(false, [(AV.fz (FV.str s20))]), (false, [(AV.fz (FV.bool b24))])]) []) ∧ ((((Bool.not b24) = true) → (R (TV.tup [(false, [(AV.fz (FV.int .i64 0))]), (false, [(AV.fz (FV.bool false))])]) [])) ∧ (((Bool.not b24) = false) → ((((decide ((6 : Int) < (((ByteArray.size s20) : Nat) : Int))) = true) → (R (TV.tup [(false, [(AV.fz (FV.int .i64 0))]), (false, [(AV.fz (FV.bool false))])]) [])) ∧ (((decide ((6 : Int) < (((ByteArray.size s20) : Nat) : Int))) = false) → (∃ s21 : ByteArray, ((Fn Tryz.prog 161 [(TV.one (AV.fz (FV.str s20))), (TV.one (AV.fz (FV.str (ByteArray.mk #[48, 49, 50, 51, 52, 53, 54, 55, 56, 57, 97, 98, 99, 100, 101, 102, 65, 66, 67, 68, 69, 70]))))] [] (TV.one (AV.fz (FV.str s21))) []) ∧ ((((Bool.not ((ByteArray.toList s21) == (ByteArray.toList (ByteArray.mk #[])))) = true) → (R (TV.tup [(false, [(AV.fz (FV.int .i64 0))]), (false, [(AV.fz (FV.bool false))])]) [])) ∧ (((Bool.not ((ByteArray.toList s21) == (ByteArray.toList (ByteArray.mk #[])))) = false) → (∃ n17 : Int, (∃ b25 : Bool, ((Fn Tryz.prog 186 [(TV.one (AV.fz (FV.str s20))), (TV.one (AV.fz (FV.int .i64 16))), (TV.one (AV.fz (FV.int .i64 32)))] [] (TV.tup [(false, [(AV.fz (FV.int .u64 n17))]), (false, [(AV.fz (FV.ifc b25))])]) []) ∧ ((((Bool.not (Bool.not b25)) = true) → (R (TV.tup [(false, [(AV.fz (FV.int .i64 0))]), (false, [(AV.fz (FV.bool false))])]) [])) ∧ (((Bool.not (Bool.not b25)) = false) → (∃ b26 : Bool, ((Fn Tryz.prog 64 [(TV.one (AV.fz (FV.int .i64 (IntKind.wrap .i64 n17))))] [] (TV.one (AV.fz (FV.bool b26))) []) ∧ ((((Bool.not b26) = true) → (R (TV.tup [(false, [(AV.fz (FV.int .i64 0))]), (false, [(AV.fz (FV.bool false))])]) [])) ∧ (((Bool.not b26) = false) → (R (TV.tup [(false, [(AV.fz (FV.int .i64 (IntKind.wrap .i64 n17)))]), (false, [(AV.fz (FV.bool true))])]) []))))))))))))))))))))))))))))
theorem utf_Named_l0 {R : TV → List Ob → Prop} {s : ByteArray} {i : Int} (h : utf_Named_R0 R s i) : utf_Named_L0 R s i :=
 LoopAt.by_tr (by kernel_rfl) (by kernel_rfl) h
def utf_Named_H (R : TV → List Ob → Prop) (s : ByteArray) : Prop :=
 (utf_Named_L0 R s 0)
theorem utf_Named_fn (s : ByteArray) {r : TV} {h : List Ob} (H : utf_Named_H (fun r' h' => r' = r ∧ h' = h) s) : Fn Tryz.prog 159 [(TV.one (AV.fz (FV.str s)))] [] r h :=
 Fn.by_tr (M := (modeOf [] [])) (lv := utf_Named_lv) (own := none) (F := Tryz.f159) (by kernel_rfl) (by kernel_rfl) (by first | decide | simp) (fun _ _ h => h) (by kernel_rfl) H
def utf_Encode_lv : List Nat → Keep := lvOf [([0, 1, 0, 1, 1], ⟨912, 0, [], false, false⟩)]
def utf_Encode_S0 (list : LL) (i : Int) (o : LL) : St := (St.mk [TV.und, TV.und, TV.und, TV.und, (TV.one (AV.ofl 1 0)), TV.und, TV.und, (TV.one (AV.fz (FV.sl 1 list))), (TV.one (AV.fz (FV.int .i64 (((List.length list) : Nat) : Int)))), (TV.one (AV.fz (FV.int .i64 i))), TV.und, TV.und, TV.und, TV.und, TV.und, TV.und, TV.und, TV.und, TV.und, TV.und, TV.und, TV.und] [(Ob.f 0 1 o)])
def utf_Encode_L0 (R : TV → List Ob → Prop) (list : LL) (i : Int) (o : LL) : Prop := LoopAt Tryz.prog (modeOf [] [(183, [(Sig.mk 0 [(false, [(AT.a (AV.ofl 1 0))])] [(OT.f 0 1)] 1), (Sig.mk 1 [(false, [(AT.a (AV.ofl 1 1))])] [OT.no, (OT.f 0 1)] 1)])]) utf_Encode_lv Tryz.f157 none R [1, 1, 0, 1, 0] (utf_Encode_S0 list i o)
def utf_Encode_R0 (R : TV → List Ob → Prop) (list : List (List FV)) (i : Int) (o : List (List FV)) : Prop :=
 ((((decide (i < (((List.length list) : Nat) : Int))) = true) → (((0 : Int) ≤ i) ∧ (∃ n2 : Int, (((list)[(Int.toNat i)]? = (some [(FV.int .i64 n2)])) ∧ (∃ b2 : Bool, ((Fn Tryz.prog 64 [(TV.one (AV.fz (FV.int .i64 n2)))] [] (TV.one (AV.fz (FV.bool b2))) []) ∧ ((((Bool.not b2) = true) → (R (TV.tup [(false, [(AV.fz (FV.sl 1 ([] : LL)))]), (false, [(AV.fz (FV.int .i64 1))])]) [])) ∧ (((Bool.not b2) = false) → (∃ es2 : LL, ((Fn Tryz.prog 183 [(TV.one (AV.ofl 1 0)), (TV.one (AV.fz (FV.int .i32 (IntKind.wrap .i32 n2))))] [(Ob.f 0 1 o)] (TV.one (AV.ofl 1 1)) [Ob.no, (Ob.f 0 1 es2)]) ∧ (utf_Encode_L0 R list (IntKind.wrap .i64 (i + 1)) es2))))))))))) ∧ (((decide (i < (((List.length list) : Nat) : Int))) = false) → (R (TV.tup [(false, [(AV.fz (FV.sl 1 o))]), (false, [(AV.fz (FV.int .i64 0))])]) [])))
theorem utf_Encode_l0 {R : TV → List Ob → Prop} {list : LL} {i : Int} {o : LL} (h : utf_Encode_R0 R list i o) : utf_Encode_L0 R list i o :=
 LoopAt.by_tr (by kernel_rfl) (by kernel_rfl) h
def utf_Encode_H (R : TV → List Ob → Prop) (list : List (List FV)) : Prop :=
 (utf_Encode_L0 R list 0 ([] : List (List FV)))
theorem utf_Encode_fn (list : LL) {r : TV} {h : List Ob} (H : utf_Encode_H (fun r' h' => r' = r ∧ h' = h) list) : Fn Tryz.prog 157 [(TV.one (AV.fz (FV.sl 1 list)))] [] r h :=
 Fn.by_tr (M := (modeOf [] [(183, [(Sig.mk 0 [(false, [(AT.a (AV.ofl 1 0))])] [(OT.f 0 1)] 1), (Sig.mk 1 [(false, [(AT.a (AV.ofl 1 1))])] [OT.no, (OT.f 0 1)] 1)])])) (lv := utf_Encode_lv) (own := none) (F := Tryz.f157) (by kernel_rfl) (by kernel_rfl) (by first | decide | simp) (fun _ _ h => h) (by kernel_rfl) H
end
section
theorem ValidRune_ok (c : Int) : Fn Tryz.prog 100 [fzI .i32 c] [] (fzB (scalB c)) [] := by
 refine unicode_utf8_ValidRune_fn _ ?_
 obtain ⟨R, hR, hRe⟩ := exR (fzB (scalB c)); rw [hRe]; clear hRe
 have fin : ∀ b, b = scalB c → R (fzB b) [] := fun b h => by rw [h]; exact hR
 unfold unicode_utf8_ValidRune_H
 simp only [dec_t, dec_f]
 unfold scalB at fin
 refine ⟨fun h0 => ⟨fun h1 => fin _ ?_, fun h1 => ⟨fun h2 => ⟨fun h3 => fin _ ?_, fun h3 => fin _ ?_⟩, fun h2 => fin _ ?_⟩⟩, fun h0 => ⟨fun h2 => ⟨fun h3 => fin _ ?_, fun h3 => fin _ ?_⟩, fun h2 => fin _ ?_⟩⟩
 ·simp; omega
 ·simp; omega
 ·simp; omega
 ·simp; omega
 ·simp; omega
 ·simp; omega
 ·simp; omega
theorem uScalar_ok (c : Int) : Fn Tryz.prog 64 [fzI .i64 c] [] (fzB (scalB c)) [] := by
 refine utf_Scalar_fn _ ?_
 obtain ⟨R, hR, hRe⟩ := exR (fzB (scalB c)); rw [hRe]; clear hRe
 unfold utf_Scalar_H
 simp only [dec_t, dec_f]
 refine ⟨fun h0 => ⟨fun h1 => ⟨scalB c, ?_, hR⟩, fun h1 => ?_⟩, fun h0 => ?_⟩
 ·rw [w32_in (by omega) (by omega)]; exact ValidRune_ok c
 ·have : scalB c = false := by unfold scalB; simp; omega
  rw [this] at hR; exact hR
 ·have : scalB c = false := by unfold scalB; simp; omega
  rw [this] at hR; exact hR
theorem scanFn1_ok (c : Int) : Fn Tryz.prog 63 [fzI .i64 c] [] (fzB (!(scalB c))) [] := by
 refine token_Scan_1_fn _ ?_
 unfold token_Scan_1_H
 exact ⟨scalB c, uScalar_ok c, rfl, rfl⟩
theorem u8_mod (y : Int) : IntKind.wrap .u8 y = y % 256 := rfl
theorem cont_bits (y : Int) (h : 0 ≤ y) : IntKind.wrap .u8 (((BitVec.toNat ((BitVec.ofInt 8 128) ||| (BitVec.ofInt 8 (IntKind.wrap .u8 (((BitVec.toNat ((BitVec.ofInt 8 (IntKind.wrap .u8 y)) &&& (BitVec.ofInt 8 63))) : Nat) : Int))))) : Nat) : Int) = 128 + y % 64 := by
 have key : ∀ n : Fin 256, IntKind.wrap .u8 (((BitVec.toNat ((BitVec.ofInt 8 128) ||| (BitVec.ofInt 8 (IntKind.wrap .u8 (((BitVec.toNat ((BitVec.ofInt 8 (n.val : Int)) &&& (BitVec.ofInt 8 63))) : Nat) : Int))))) : Nat) : Int) = 128 + (n.val : Int) % 64 := by decide +kernel
 have h2 := key ⟨(y % 256).toNat, by omega⟩
 have h3 : (((y % 256).toNat : Nat) : Int) = y % 256 := by omega
 simp only [h3] at h2
 rw [u8_mod y, h2]
 omega
theorem lead192 (y : Int) (h0 : 0 ≤ y) (h1 : y < 32) : IntKind.wrap .u8 (((BitVec.toNat ((BitVec.ofInt 8 192) ||| (BitVec.ofInt 8 (IntKind.wrap .u8 y)))) : Nat) : Int) = 192 + y := by
 have k1 : ∀ n : Fin 32, IntKind.wrap .u8 (((BitVec.toNat ((BitVec.ofInt 8 192) ||| (BitVec.ofInt 8 (IntKind.wrap .u8 (n.val : Int))))) : Nat) : Int) = 192 + (n.val : Int) := by decide +kernel
 have h3 : ((y.toNat : Nat) : Int) = y := by omega
 have := k1 ⟨y.toNat, by omega⟩
 simp only [h3] at this; exact this
theorem lead224 (y : Int) (h0 : 0 ≤ y) (h1 : y < 16) : IntKind.wrap .u8 (((BitVec.toNat ((BitVec.ofInt 8 224) ||| (BitVec.ofInt 8 (IntKind.wrap .u8 y)))) : Nat) : Int) = 224 + y := by
 have k1 : ∀ n : Fin 16, IntKind.wrap .u8 (((BitVec.toNat ((BitVec.ofInt 8 224) ||| (BitVec.ofInt 8 (IntKind.wrap .u8 (n.val : Int))))) : Nat) : Int) = 224 + (n.val : Int) := by decide +kernel
 have h3 : ((y.toNat : Nat) : Int) = y := by omega
 have := k1 ⟨y.toNat, by omega⟩
 simp only [h3] at this; exact this
theorem lead240 (y : Int) (h0 : 0 ≤ y) (h1 : y < 8) : IntKind.wrap .u8 (((BitVec.toNat ((BitVec.ofInt 8 240) ||| (BitVec.ofInt 8 (IntKind.wrap .u8 y)))) : Nat) : Int) = 240 + y := by
 have k1 : ∀ n : Fin 8, IntKind.wrap .u8 (((BitVec.toNat ((BitVec.ofInt 8 240) ||| (BitVec.ofInt 8 (IntKind.wrap .u8 (n.val : Int))))) : Nat) : Int) = 240 + (n.val : Int) := by decide +kernel
 have h3 : ((y.toNat : Nat) : Int) = y := by omega
 have := k1 ⟨y.toNat, by omega⟩
 simp only [h3] at this; exact this
theorem exW (v : TV) (h : List Ob) : ∃ R : TV → List Ob → Prop, (∀ h', Wk h' h → R v h') ∧ (fun r' h' => r' = v ∧ Wk h' h) = R := ⟨_, fun _ hw => ⟨rfl, hw⟩, rfl⟩
theorem scal_in {c : Int} (h : scalB c = true) : 0 ≤ c ∧ c ≤ 1114111 ∧ ¬ (55296 ≤ c ∧ c ≤ 57343) := by
 unfold scalB at h
 simp only [Bool.and_eq_true, decide_eq_true_eq, Bool.not_eq_true', Bool.and_eq_false_iff, decide_eq_false_iff_not] at h
 omega
theorem fd6 {c : Int} (h : 0 ≤ c) : Int.fdiv c (2 ^ (min (Int.toNat 6) 32)) = c / 64 := Int.fdiv_eq_ediv_of_nonneg c (by decide)
theorem fd12 {c : Int} (h : 0 ≤ c) : Int.fdiv c (2 ^ (min (Int.toNat 12) 32)) = c / 4096 := Int.fdiv_eq_ediv_of_nonneg c (by decide)
theorem fd18 {c : Int} (h : 0 ≤ c) : Int.fdiv c (2 ^ (min (Int.toNat 18) 32)) = c / 262144 := Int.fdiv_eq_ediv_of_nonneg c (by decide)
theorem utfB_two {c : Int} (h : 128 ≤ c) (h2 : c < 2048) : ints .u8 (utfB c) = [[FV.int .u8 (192 + c / 64)], [FV.int .u8 (128 + c % 64)]] := by
 unfold utfB; rw [if_neg (by omega), if_pos h2]; rfl
theorem utfB_three {c : Int} (h : 2048 ≤ c) (h2 : c < 65536) : ints .u8 (utfB c) = [[FV.int .u8 (224 + c / 4096)], [FV.int .u8 (128 + c / 64 % 64)], [FV.int .u8 (128 + c % 64)]] := by
 unfold utfB; rw [if_neg (by omega), if_neg (by omega), if_pos h2]; rfl
theorem utfB_four {c : Int} (h : 65536 ≤ c) : ints .u8 (utfB c) = [[FV.int .u8 (240 + c / 262144)], [FV.int .u8 (128 + c / 4096 % 64)], [FV.int .u8 (128 + c / 64 % 64)], [FV.int .u8 (128 + c % 64)]] := by
 unfold utfB; rw [if_neg (by omega), if_neg (by omega), if_neg (by omega)]; rfl
theorem appNA1 {c : Int} (h : scalB c = true) (hc : 128 ≤ c) (l : List Int) (hl : l.length ≤ 200000000000000) :
  Fn Tryz.prog 210 [.one (.ofl 1 0), fzI .i32 c] [.f 0 1 (ints .u8 l)] (.one (.ofl 1 1)) [.no, .f 0 1 (ints .u8 (l ++ utfB c))] := by
 obtain ⟨h0, h1, hs⟩ := scal_in h
 refine unicode_utf8_appendRuneNonASCII1_fn _ _ ?_
 obtain ⟨R, hR, hRe⟩ := exW (.one (.ofl 1 1)) [.no, .f 0 1 (ints .u8 (l ++ utfB c))]; rw [hRe]; clear hRe
 rw [← ints_app] at hR
 unfold unicode_utf8_appendRuneNonASCII1_H
 simp only [dec_t, dec_f, wu32 h0 (by omega : c ≤ 4294967295), fd6 h0, fd12 h0, fd18 h0, cont_bits c h0, cont_bits (c / 64) (by omega), cont_bits (c / 4096) (by omega), ints_len, List.length_cons, List.length_nil]
 refine ⟨fun a1 => ?_, fun a1 => ⟨fun a2 => ?_, fun a2 => ⟨fun a3 => ⟨fun a4 => ?_, fun a4 => ⟨fun a5 => ⟨fun a6 => ?_, fun a6 => absurd a6 (by omega)⟩, fun a5 => absurd a5 (by omega)⟩⟩, fun a3 => absurd a3 (by omega)⟩⟩⟩
 ·rw [lead192 _ (by omega) (by omega), ← utfB_two hc (by omega)]
  exact ⟨by omega, by omega, hR _ (Wk.refl _)⟩
 ·rw [lead224 _ (by omega) (by omega), ← utfB_three (by omega) (by omega)]
  exact ⟨by omega, by omega, by omega, hR _ (Wk.refl _)⟩
 ·rw [lead224 _ (by omega) (by omega), ← utfB_three (by omega) (by omega)]
  exact ⟨by omega, by omega, by omega, hR _ (Wk.refl _)⟩
 ·rw [lead240 _ (by omega) (by omega), ← utfB_four (by omega)]
  exact ⟨by omega, by omega, by omega, by omega, hR _ (Wk.refl _)⟩
theorem append1_ok {c : Int} (h : scalB c = true) (l : List Int) (hl : l.length ≤ 200000000000000) :
  Fn Tryz.prog 183 [.one (.ofl 1 0), fzI .i32 c] [.f 0 1 (ints .u8 l)] (.one (.ofl 1 1)) [.no, .f 0 1 (ints .u8 (l ++ utfB c))] := by
 obtain ⟨h0, h1, hs⟩ := scal_in h
 refine unicode_utf8_AppendRune1_fn _ _ ?_
 obtain ⟨R, hR, hRe⟩ := exW (.one (.ofl 1 1)) [.no, .f 0 1 (ints .u8 (l ++ utfB c))]; rw [hRe]; clear hRe
 unfold unicode_utf8_AppendRune1_H
 simp only [dec_t, dec_f, wu32 h0 (by omega : c ≤ 4294967295), ints_len, List.length_cons, List.length_nil]
 refine ⟨fun a1 => ⟨by omega, ?_⟩, fun a1 => ⟨_, appNA1 h (by omega) l hl, hR _ (Wk.refl _)⟩⟩
 rw [wu8 h0 (by omega), ints_snoc]
 have : utfB c = [c] := by unfold utfB; rw [if_pos (by omega)]
 rw [this] at hR
 exact hR _ (Wk.refl _)
def enc (l : List Int) : List Int := (l.map utfB).flatten
theorem enc_cons (c : Int) (l : List Int) : enc (c :: l) = utfB c ++ enc l := rfl
theorem enc_app (l m : List Int) : enc (l ++ m) = enc l ++ enc m := by simp [enc]
theorem utfB_le (c : Int) : (utfB c).length ≤ 4 := by
 have := utfB_len c
 split at this
 ·omega
 ·split at this
  ·omega
  ·split at this <;> omega
theorem enc_len (l : List Int) : (enc l).length ≤ 4 * l.length := by
 induction l with
 | nil => simp [enc]
 | cons c r ih =>
  rw [enc_cons]
  have := utfB_le c
  simp only [List.length_append, List.length_cons]
  omega
theorem utfB_bytes {c : Int} (h : scalB c = true) : Bytes (utfB c) := by
 obtain ⟨h0, h1, hs⟩ := scal_in h
 intro x hx
 unfold utfB at hx
 split at hx
 ·simp at hx; omega
 ·split at hx
  ·simp at hx; omega
  ·split at hx
   ·simp at hx; omega
   ·simp at hx; omega
def Scals (l : List Int) : Prop := ∀ c ∈ l, scalB c = true
theorem enc_bytes {l : List Int} (h : Scals l) : Bytes (enc l) := by
 induction l with
 | nil => intro x hx; cases hx
 | cons c r ih =>
  intro x hx
  rw [enc_cons] at hx
  rcases List.mem_append.1 hx with hx | hx
  ·exact utfB_bytes (h c (by simp)) x hx
  ·exact ih (fun y hy => h y (by simp [hy])) x hx
theorem encode_loop (l : List Int) (hs : Scals l) (hlen : l.length ≤ 50000000000) (R : TV → List Ob → Prop) (hR : R (.tup [(false, [.fz (.sl 1 (ints .u8 (enc l)))]), (false, [.fz (.int .i64 0)])]) []) :
  ∀ (m i : Nat), l.length - i = m → i ≤ l.length → utf_Encode_L0 R (ints .i64 l) i (ints .u8 (enc (l.take i))) := by
 intro m
 induction m with
 | zero =>
  intro i hi hle
  refine utf_Encode_l0 ?_
  unfold utf_Encode_R0
  simp only [dec_t, dec_f, ints_len]
  refine ⟨fun a => absurd a (by omega), fun _ => ?_⟩
  rw [show i = l.length by omega, List.take_length]
  exact hR
 | succ m ih =>
  intro i hi hle
  refine utf_Encode_l0 ?_
  unfold utf_Encode_R0
  simp only [dec_t, dec_f, ints_len, Int.toNat_natCast]
  refine ⟨fun _ => ⟨by omega, ?_⟩, fun a => absurd a (by omega)⟩
  have hlt : i < l.length := by omega
  have hc : scalB (rd l i) = true := hs _ (by rw [rd_at l i hlt]; exact List.getElem_mem hlt)
  obtain ⟨h0, h1, _⟩ := scal_in hc
  refine ⟨rd l i, ?_, true, ?_, ?_⟩
  ·simp [ints, some_rd hlt]
  ·have := uScalar_ok (rd l i); rw [hc] at this; exact this
  ·simp only [Bool.not_true, Bool.false_eq_true, false_implies, true_and, forall_const]
   rw [w32_in (by omega) (by omega), w64 (by omega) (by omega)]
   have hel := enc_len (l.take i)
   have htl : (l.take i).length ≤ l.length := by simp; omega
   refine ⟨_, append1_ok hc (enc (l.take i)) (by omega), ?_⟩
   have := ih (i + 1) (by omega) (by omega)
   have ht : l.take (i + 1) = l.take i ++ [rd l i] := by rw [List.take_add_one, some_rd hlt]; rfl
   rw [ht, enc_app, show enc [rd l i] = utfB (rd l i) by simp [enc]] at this
   exact this
theorem uEncode_ok (l : List Int) (hs : Scals l) (hlen : l.length ≤ 50000000000) : Fn Tryz.prog 157 [fzS .i64 l] [] (.tup [(false, [.fz (.sl 1 (ints .u8 (enc l)))]), (false, [.fz (.int .i64 0)])]) [] := by
 refine utf_Encode_fn _ ?_
 obtain ⟨R, hR, hRe⟩ := exR (.tup [(false, [.fz (.sl 1 (ints .u8 (enc l)))]), (false, [.fz (.int .i64 0)])]); rw [hRe]; clear hRe
 unfold utf_Encode_H
 exact encode_loop l hs hlen R hR _ 0 rfl (Nat.zero_le _)
end
section
def pkL (l : List Int) (i : Nat) : Int := if i < l.length then rd l i else -1
theorem pkL_drop (t : List Int) (p i : Nat) : pkL (t.drop p) i = pkL t (p + i) := by
 unfold pkL
 rw [rd_dropN, List.length_drop]
 by_cases h : p + i < t.length
 ·rw [if_pos (by omega), if_pos h]
 ·rw [if_neg (by omega), if_neg h]
def untilN : List Int → Nat
 | [] => 0
 | c :: r => if endsB c = true then 0 else untilN r + 1
theorem untilN_le : ∀ l : List Int, untilN l ≤ l.length
 | [] => Nat.le_refl _
 | c :: r => by
  have := untilN_le r
  unfold untilN
  split <;> simp <;> omega
def blC : Bool → List Int → Nat
 | _, [] => 0
 | true, c :: r => if c = 10 then blC false r + 1 else blC true r + 1
 | false, c :: r => if blankB c = true then blC false r + 1 else if c = 59 then blC true r + 1 else 0
theorem blC_le : ∀ (b : Bool) (l : List Int), blC b l ≤ l.length
 | b, [] => by cases b <;> exact Nat.le_refl _
 | true, c :: r => by
  have h1 := blC_le false r
  have h2 := blC_le true r
  unfold blC
  split <;> simp <;> omega
 | false, c :: r => by
  have h1 := blC_le false r
  have h2 := blC_le true r
  unfold blC
  split
  ·simp; omega
  ·split <;> simp; omega
def semN : Nat → List Int → Nat
 | 0, _ => 0
 | _ + 1, [] => 0
 | n + 1, c :: r => if c = 59 then 0 else semN n r + 1
theorem semN_le : ∀ (n : Nat) (l : List Int), semN n l ≤ n ∧ semN n l ≤ l.length
 | 0, l => ⟨Nat.le_refl _, Nat.zero_le _⟩
 | n + 1, [] => ⟨Nat.zero_le _, Nat.le_refl _⟩
 | n + 1, c :: r => by
  have := semN_le n r
  unfold semN
  split <;> simp <;> omega
def hexD (c : Int) : Int := if 48 ≤ c ∧ c ≤ 57 then c - 48 else if 97 ≤ c ∧ c ≤ 102 then c - 87 else if 65 ≤ c ∧ c ≤ 70 then c - 55 else -1
def hexR : List Int → Int → Int
 | [], n => if scalB n = true then n else -1
 | c :: r, n => if hexD c < 0 then -1 else hexR r (n * 16 + hexD c)
def hexV (T : List Int) : Int := if 1 ≤ T.length ∧ T.length ≤ 6 then hexR T 0 else -1
def namedV (T : List Int) : Int :=
 if T = [115, 112, 97, 99, 101] then 32 else if T = [110, 101, 119, 108, 105, 110, 101] then 10 else if T = [116, 97, 98] then 9 else if T = [114, 101, 116, 117, 114, 110] then 13
 else if T = [110, 117, 108, 108] then 0 else if T = [100, 101, 108, 101, 116, 101] then 127
 else if (chars T).2 = -1 ∧ (chars T).1.length = 1 then rd (chars T).1 0
 else if 2 ≤ T.length ∧ rd T 0 = 120 then hexV (T.drop 1) else -1
theorem hexR_scal : ∀ (l : List Int) (n : Int), hexR l n = -1 ∨ scalB (hexR l n) = true
 | [], n => by
  unfold hexR
  split
  ·exact .inr ‹_›
  ·exact .inl rfl
 | c :: r, n => by
  unfold hexR
  split
  ·exact .inl rfl
  ·exact hexR_scal r _
theorem hexV_scal (T : List Int) : hexV T = -1 ∨ scalB (hexV T) = true := by
 unfold hexV
 split
 ·exact hexR_scal _ _
 ·exact .inl rfl
end
section
theorem semN_spec : ∀ (n : Nat) (l : List Int), (∀ j, j < semN n l → rd l j ≠ 59) ∧ (semN n l = n ∨ semN n l = l.length ∨ rd l (semN n l) = 59)
 | 0, l => ⟨fun j hj => absurd hj (Nat.not_lt_zero j), .inl rfl⟩
 | n + 1, [] => ⟨fun j hj => absurd hj (Nat.not_lt_zero j), .inr (.inl rfl)⟩
 | n + 1, c :: r => by
  obtain ⟨h1, h2⟩ := semN_spec n r
  have key : semN (n + 1) (c :: r) = if c = 59 then 0 else semN n r + 1 := rfl
  rw [key]
  by_cases hc : c = 59
  ·rw [if_pos hc]
   exact ⟨fun j hj => absurd hj (Nat.not_lt_zero j), .inr (.inr hc)⟩
  ·rw [if_neg hc]
   refine ⟨fun j hj => ?_, ?_⟩
   ·cases j with
    | zero => exact hc
    | succ j => exact h1 j (by omega)
   ·rcases h2 with h2 | h2 | h2
    ·exact .inl (by omega)
    ·exact .inr (.inl (by simp; omega))
    ·exact .inr (.inr h2)
def escV (r : List Int) : Int × Nat :=
 let c := pkL r 0
 if c = 110 then (10, 1) else if c = 116 then (9, 1) else if c = 114 then (13, 1) else if c = 92 then (92, 1) else if c = 34 then (34, 1)
 else if c = 120 then (if pkL (r.drop 1) (semN 7 (r.drop 1)) = 59 then (hexV (enc ((r.drop 1).take (semN 7 (r.drop 1)))), semN 7 (r.drop 1) + 2) else (-1, 0)) else (-1, 0)
def strF : Nat → List Int → List Int → Nat → Option (List Int × Nat)
 | 0, _, _, _ => none
 | _ + 1, [], _, _ => none
 | f + 1, c :: r, acc, k => if c = 34 then some (acc, k + 1) else if c ≠ 92 then strF f r (acc ++ [c]) (k + 1) else if (escV r).1 < 0 then none else strF f (r.drop (escV r).2) (acc ++ [(escV r).1]) (k + 1 + (escV r).2)
theorem Scals.drop {l : List Int} (h : Scals l) (n : Nat) : Scals (l.drop n) := fun c hc => h c (List.mem_of_mem_drop hc)
theorem Scals.take {l : List Int} (h : Scals l) (n : Nat) : Scals (l.take n) := fun c hc => h c (List.mem_of_mem_take hc)
theorem Scals.rd {l : List Int} (h : Scals l) {i : Nat} (hi : i < l.length) : scalB (rd l i) = true := h _ (by rw [rd_at l i hi]; exact List.getElem_mem hi)
end
section
def strconv_ParseUint_lv : List Nat → Keep := lvOf []
def strconv_ParseUint_H (R : TV → List Ob → Prop) (s : ByteArray) : Prop :=
 (∃ n1 : Int, (∃ b2 : Bool, ((Fn Tryz.prog 212 [(TV.one (AV.fz (FV.str s))), (TV.one (AV.fz (FV.int .i64 16))), (TV.one (AV.fz (FV.int .i64 32)))] [] (TV.tup [(false, [(AV.fz (FV.int .u64 n1))]), (false, [(AV.fz (FV.ifc b2))])]) []) ∧ (ifB (Bool.not (Bool.not b2)) (∃ b3 : Bool, ((Fn Tryz.prog 196 [(TV.one (AV.fz (FV.str (ByteArray.mk #[80, 97, 114, 115, 101, 85, 105, 110, 116])))), (TV.one (AV.fz (FV.str s))), (TV.one (AV.fz (FV.int .i64 16))), (TV.one (AV.fz (FV.int .i64 32))), (TV.one (AV.fz (FV.ifc b2)))] [] (TV.one (AV.fz (FV.ifc b3))) []) ∧ (R (TV.tup [(false, [(AV.fz (FV.int .u64 n1))]), (false, [(AV.fz (FV.ifc b3))])]) []))) (R (TV.tup [(false, [(AV.fz (FV.int .u64 n1))]), (false, [(AV.fz (FV.ifc false))])]) [])))))
theorem strconv_ParseUint_fn (s : ByteArray) {r : TV} {h : List Ob} (H : strconv_ParseUint_H (fun r' h' => r' = r ∧ h' = h) s) : Fn Tryz.prog 186 [(TV.one (AV.fz (FV.str s))), (TV.one (AV.fz (FV.int .i64 16))), (TV.one (AV.fz (FV.int .i64 32)))] [] r h :=
 Fn.by_tr (M := (modeC [] [])) (lv := strconv_ParseUint_lv) (own := none) (F := Tryz.f186) (by kernel_rfl) (by kernel_rfl) (by first | decide | simp) (fun _ _ h => h) (by kernel_rfl) H
def internal_strconv_ParseUint_lv : List Nat → Keep := lvOf [([0, 1, 0, 1, 1, 1, 1, 1, 1, 1, 1, 1, 1, 1], ⟨4436777100798802905238461234946, 0, [], false, false⟩)]
def internal_strconv_ParseUint_S0 (s : ByteArray) (n13 : Int) (i : Int) : St := (St.mk [TV.und, (TV.one (AV.fz (FV.int .i64 16))), TV.und, TV.und, TV.und, TV.und, TV.und, TV.und, (TV.one (AV.fz (FV.bool ((16 : Int) == 0)))), (TV.one (AV.fz (FV.str s))), (TV.one (AV.fz (FV.int .u64 1152921504606846976))), (TV.one (AV.fz (FV.int .u64 (IntKind.wrap .u64 ((IntKind.wrap .u64 (1 * (2 ^ (min (Int.toNat (IntKind.wrap .u64 32)) 64)))) - 1))))), (TV.one (AV.fz (FV.bool false))), (TV.one (AV.fz (FV.int .u64 n13))), TV.und, TV.und, TV.und, TV.und, TV.und, TV.und, TV.und, TV.und, TV.und, TV.und, TV.und, TV.und, TV.und, TV.und, TV.und, TV.und, TV.und, TV.und, TV.und, TV.und, TV.und, TV.und, TV.und, TV.und, TV.und, TV.und, TV.und, TV.und, TV.und, TV.und, TV.und, TV.und, TV.und, TV.und, TV.und, TV.und, TV.und, TV.und, TV.und, TV.und, TV.und, TV.und, TV.und, TV.und, TV.und, TV.und, TV.und, TV.und, TV.und, TV.und, TV.und, TV.und, TV.und, TV.und, TV.und, TV.und, TV.und, TV.und, TV.und, TV.und, TV.und, TV.und, TV.und, TV.und, TV.und, TV.und, TV.und, TV.und, TV.und, TV.und, TV.und, TV.und, TV.und, TV.und, TV.und, TV.und, TV.und, TV.und, TV.und, TV.und, TV.und, TV.und, TV.und, TV.und, TV.und, (TV.one (AV.fz (FV.sl 1 (List.map (fun b7 => [(FV.int .u8 (((UInt8.toNat b7) : Nat) : Int))]) (Array.toList (ByteArray.data s)))))), (TV.one (AV.fz (FV.int .i64 (((List.length (List.map (fun b8 => [(FV.int .u8 (((UInt8.toNat b8) : Nat) : Int))]) (Array.toList (ByteArray.data s)))) : Nat) : Int)))), (TV.one (AV.fz (FV.int .i64 i))), TV.und, TV.und, TV.und, TV.und, TV.und, TV.und, TV.und, TV.und, TV.und, TV.und, TV.und, TV.und, TV.und, TV.und, TV.und, TV.und, TV.und, TV.und, TV.und, TV.und, TV.und, TV.und, TV.und, TV.und, TV.und, TV.und, TV.und, TV.und, TV.und, TV.und, TV.und, TV.und, TV.und, TV.und, TV.und, TV.und, TV.und, TV.und, TV.und, TV.und, TV.und, TV.und, TV.und, TV.und, TV.und, TV.und, TV.und, TV.und, TV.und, TV.und, TV.und, TV.und, TV.und, TV.und, TV.und, TV.und, TV.und, TV.und, TV.und, TV.und, TV.und, TV.und, TV.und, TV.und, TV.und, TV.und, TV.und, TV.und, TV.und, TV.und] [])
def internal_strconv_ParseUint_L0 (R : TV → List Ob → Prop) (s : ByteArray) (n13 : Int) (i : Int) : Prop := LoopAt Tryz.prog (modeC [] []) internal_strconv_ParseUint_lv Tryz.f212 none R [1, 1, 1, 1, 1, 1, 1, 1, 1, 1, 1, 0, 1, 0] (internal_strconv_ParseUint_S0 s n13 i)
def internal_strconv_ParseUint_R0 (R : TV → List Ob → Prop) (s : ByteArray) (n13 : Int) (i : Int) : Prop :=
 (ifB (decide (i < (((List.length (List.map (fun b6 => [(FV.int .u8 (((UInt8.toNat b6) : Nat) : Int))]) (Array.toList (ByteArray.data s)))) : Nat) : Int))) (((0 : Int) ≤ i) ∧ (∃ n27 : Int, ((((List.map (fun b5 => [(FV.int .u8 (((UInt8.toNat b5) : Nat) : Int))]) (Array.toList (ByteArray.data s))))[(Int.toNat i)]? = (some [(FV.int .u8 n27)])) ∧ (ifB (n27 == 95) (ifB (decide ((48 : Int) ≤ n27)) (ifB (decide (n27 ≤ 57)) (ifB (decide ((IntKind.wrap .u8 16) ≤ (IntKind.wrap .u8 (n27 - 48)))) (R (TV.tup [(false, [(AV.fz (FV.int .u64 0))]), (false, [(AV.fz (FV.ifv 244 false [(FV.int .i64 2)]))])]) []) (ifB (decide ((1152921504606846976 : Int) ≤ n13)) (R (TV.tup [(false, [(AV.fz (FV.int .u64 (IntKind.wrap .u64 ((IntKind.wrap .u64 (1 * (2 ^ (min (Int.toNat (IntKind.wrap .u64 32)) 64)))) - 1))))]), (false, [(AV.fz (FV.ifv 244 false [(FV.int .i64 1)]))])]) []) (ifB (decide ((IntKind.wrap .u64 ((IntKind.wrap .u64 (n13 * (IntKind.wrap .u64 16))) + (IntKind.wrap .u64 (IntKind.wrap .u8 (n27 - 48))))) < (IntKind.wrap .u64 (n13 * (IntKind.wrap .u64 16))))) (R (TV.tup [(false, [(AV.fz (FV.int .u64 (IntKind.wrap .u64 ((IntKind.wrap .u64 (1 * (2 ^ (min (Int.toNat (IntKind.wrap .u64 32)) 64)))) - 1))))]), (false, [(AV.fz (FV.ifv 244 false [(FV.int .i64 1)]))])]) []) (ifB (decide ((IntKind.wrap .u64 ((IntKind.wrap .u64 (1 * (2 ^ (min (Int.toNat (IntKind.wrap .u64 32)) 64)))) - 1)) < (IntKind.wrap .u64 ((IntKind.wrap .u64 (n13 * (IntKind.wrap .u64 16))) + (IntKind.wrap .u64 (IntKind.wrap .u8 (n27 - 48))))))) (R (TV.tup [(false, [(AV.fz (FV.int .u64 (IntKind.wrap .u64 ((IntKind.wrap .u64 (1 * (2 ^ (min (Int.toNat (IntKind.wrap .u64 32)) 64)))) - 1))))]), (false, [(AV.fz (FV.ifv 244 false [(FV.int .i64 1)]))])]) []) (internal_strconv_ParseUint_L0 R s (IntKind.wrap .u64 ((IntKind.wrap .u64 (n13 * (IntKind.wrap .u64 16))) + (IntKind.wrap .u64 (IntKind.wrap .u8 (n27 - 48))))) (IntKind.wrap .i64 (i + 1))))))) (∃ n28 : Int, ((Fn Tryz.prog 224 [(TV.one (AV.fz (FV.int .u8 n27)))] [] (TV.one (AV.fz (FV.int .u8 n28))) []) ∧ (ifB (decide ((97 : Int) ≤ n28)) (∃ n29 : Int, ((Fn Tryz.prog 224 [(TV.one (AV.fz (FV.int .u8 n27)))] [] (TV.one (AV.fz (FV.int .u8 n29))) []) ∧ (ifB (decide (n29 ≤ 122)) (∃ n30 : Int, ((Fn Tryz.prog 224 [(TV.one (AV.fz (FV.int .u8 n27)))] [] (TV.one (AV.fz (FV.int .u8 n30))) []) ∧ (ifB (decide ((IntKind.wrap .u8 16) ≤ (IntKind.wrap .u8 ((IntKind.wrap .u8 (n30 - 97)) + 10)))) (R (TV.tup [(false, [(AV.fz (FV.int .u64 0))]), (false, [(AV.fz (FV.ifv 244 false [(FV.int .i64 2)]))])]) []) (ifB (decide ((1152921504606846976 : Int) ≤ n13)) (R (TV.tup [(false, [(AV.fz (FV.int .u64 (IntKind.wrap .u64 ((IntKind.wrap .u64 (1 * (2 ^ (min (Int.toNat (IntKind.wrap .u64 32)) 64)))) - 1))))]), (false, [(AV.fz (FV.ifv 244 false [(FV.int .i64 1)]))])]) []) (ifB (decide ((IntKind.wrap .u64 ((IntKind.wrap .u64 (n13 * (IntKind.wrap .u64 16))) + (IntKind.wrap .u64 (IntKind.wrap .u8 ((IntKind.wrap .u8 (n30 - 97)) + 10))))) < (IntKind.wrap .u64 (n13 * (IntKind.wrap .u64 16))))) (R (TV.tup [(false, [(AV.fz (FV.int .u64 (IntKind.wrap .u64 ((IntKind.wrap .u64 (1 * (2 ^ (min (Int.toNat (IntKind.wrap .u64 32)) 64)))) - 1))))]), (false, [(AV.fz (FV.ifv 244 false [(FV.int .i64 1)]))])]) []) (ifB (decide ((IntKind.wrap .u64 ((IntKind.wrap .u64 (1 * (2 ^ (min (Int.toNat (IntKind.wrap .u64 32)) 64)))) - 1)) < (IntKind.wrap .u64 ((IntKind.wrap .u64 (n13 * (IntKind.wrap .u64 16))) + (IntKind.wrap .u64 (IntKind.wrap .u8 ((IntKind.wrap .u8 (n30 - 97)) + 10))))))) (R (TV.tup [(false, [(AV.fz (FV.int .u64 (IntKind.wrap .u64 ((IntKind.wrap .u64 (1 * (2 ^ (min (Int.toNat (IntKind.wrap .u64 32)) 64)))) - 1))))]), (false, [(AV.fz (FV.ifv 244 false [(FV.int .i64 1)]))])]) []) (internal_strconv_ParseUint_L0 R s (IntKind.wrap .u64 ((IntKind.wrap .u64 (n13 * (IntKind.wrap .u64 16))) + (IntKind.wrap .u64 (IntKind.wrap .u8 ((IntKind.wrap .u8 (n30 - 97)) + 10))))) (IntKind.wrap .i64 (i + 1))))))))) (R (TV.tup [(false, [(AV.fz (FV.int .u64 0))]), (false, [(AV.fz (FV.ifv 244 false [(FV.int .i64 2)]))])]) [])))) (R (TV.tup [(false, [(AV.fz (FV.int .u64 0))]), (false, [(AV.fz (FV.ifv 244 false [(FV.int .i64 2)]))])]) []))))) (∃ n31 : Int, ((Fn Tryz.prog 224 [(TV.one (AV.fz (FV.int .u8 n27)))] [] (TV.one (AV.fz (FV.int .u8 n31))) []) ∧ (ifB (decide ((97 : Int) ≤ n31)) (∃ n32 : Int, ((Fn Tryz.prog 224 [(TV.one (AV.fz (FV.int .u8 n27)))] [] (TV.one (AV.fz (FV.int .u8 n32))) []) ∧ (ifB (decide (n32 ≤ 122)) (∃ n33 : Int, ((Fn Tryz.prog 224 [(TV.one (AV.fz (FV.int .u8 n27)))] [] (TV.one (AV.fz (FV.int .u8 n33))) []) ∧ (ifB (decide ((IntKind.wrap .u8 16) ≤ (IntKind.wrap .u8 ((IntKind.wrap .u8 (n33 - 97)) + 10)))) (R (TV.tup [(false, [(AV.fz (FV.int .u64 0))]), (false, [(AV.fz (FV.ifv 244 false [(FV.int .i64 2)]))])]) []) (ifB (decide ((1152921504606846976 : Int) ≤ n13)) (R (TV.tup [(false, [(AV.fz (FV.int .u64 (IntKind.wrap .u64 ((IntKind.wrap .u64 (1 * (2 ^ (min (Int.toNat (IntKind.wrap .u64 32)) 64)))) - 1))))]), (false, [(AV.fz (FV.ifv 244 false [(FV.int .i64 1)]))])]) []) (ifB (decide ((IntKind.wrap .u64 ((IntKind.wrap .u64 (n13 * (IntKind.wrap .u64 16))) + (IntKind.wrap .u64 (IntKind.wrap .u8 ((IntKind.wrap .u8 (n33 - 97)) + 10))))) < (IntKind.wrap .u64 (n13 * (IntKind.wrap .u64 16))))) (R (TV.tup [(false, [(AV.fz (FV.int .u64 (IntKind.wrap .u64 ((IntKind.wrap .u64 (1 * (2 ^ (min (Int.toNat (IntKind.wrap .u64 32)) 64)))) - 1))))]), (false, [(AV.fz (FV.ifv 244 false [(FV.int .i64 1)]))])]) []) (ifB (decide ((IntKind.wrap .u64 ((IntKind.wrap .u64 (1 * (2 ^ (min (Int.toNat (IntKind.wrap .u64 32)) 64)))) - 1)) < (IntKind.wrap .u64 ((IntKind.wrap .u64 (n13 * (IntKind.wrap .u64 16))) + (IntKind.wrap .u64 (IntKind.wrap .u8 ((IntKind.wrap .u8 (n33 - 97)) + 10))))))) (R (TV.tup [(false, [(AV.fz (FV.int .u64 (IntKind.wrap .u64 ((IntKind.wrap .u64 (1 * (2 ^ (min (Int.toNat (IntKind.wrap .u64 32)) 64)))) - 1))))]), (false, [(AV.fz (FV.ifv 244 false [(FV.int .i64 1)]))])]) []) (internal_strconv_ParseUint_L0 R s (IntKind.wrap .u64 ((IntKind.wrap .u64 (n13 * (IntKind.wrap .u64 16))) + (IntKind.wrap .u64 (IntKind.wrap .u8 ((IntKind.wrap .u8 (n33 - 97)) + 10))))) (IntKind.wrap .i64 (i + 1))))))))) (R (TV.tup [(false, [(AV.fz (FV.int .u64 0))]), (false, [(AV.fz (FV.ifv 244 false [(FV.int .i64 2)]))])]) [])))) (R (TV.tup [(false, [(AV.fz (FV.int .u64 0))]), (false, [(AV.fz (FV.ifv 244 false [(FV.int .i64 2)]))])]) []))))) (ifB (decide ((48 : Int) ≤ n27)) (ifB (decide (n27 ≤ 57)) (ifB (decide ((IntKind.wrap .u8 16) ≤ (IntKind.wrap .u8 (n27 - 48)))) (R (TV.tup [(false, [(AV.fz (FV.int .u64 0))]), (false, [(AV.fz (FV.ifv 244 false [(FV.int .i64 2)]))])]) []) (ifB (decide ((1152921504606846976 : Int) ≤ n13)) (R (TV.tup [(false, [(AV.fz (FV.int .u64 (IntKind.wrap .u64 ((IntKind.wrap .u64 (1 * (2 ^ (min (Int.toNat (IntKind.wrap .u64 32)) 64)))) - 1))))]), (false, [(AV.fz (FV.ifv 244 false [(FV.int .i64 1)]))])]) []) (ifB (decide ((IntKind.wrap .u64 ((IntKind.wrap .u64 (n13 * (IntKind.wrap .u64 16))) + (IntKind.wrap .u64 (IntKind.wrap .u8 (n27 - 48))))) < (IntKind.wrap .u64 (n13 * (IntKind.wrap .u64 16))))) (R (TV.tup [(false, [(AV.fz (FV.int .u64 (IntKind.wrap .u64 ((IntKind.wrap .u64 (1 * (2 ^ (min (Int.toNat (IntKind.wrap .u64 32)) 64)))) - 1))))]), (false, [(AV.fz (FV.ifv 244 false [(FV.int .i64 1)]))])]) []) (ifB (decide ((IntKind.wrap .u64 ((IntKind.wrap .u64 (1 * (2 ^ (min (Int.toNat (IntKind.wrap .u64 32)) 64)))) - 1)) < (IntKind.wrap .u64 ((IntKind.wrap .u64 (n13 * (IntKind.wrap .u64 16))) + (IntKind.wrap .u64 (IntKind.wrap .u8 (n27 - 48))))))) (R (TV.tup [(false, [(AV.fz (FV.int .u64 (IntKind.wrap .u64 ((IntKind.wrap .u64 (1 * (2 ^ (min (Int.toNat (IntKind.wrap .u64 32)) 64)))) - 1))))]), (false, [(AV.fz (FV.ifv 244 false [(FV.int .i64 1)]))])]) []) (internal_strconv_ParseUint_L0 R s (IntKind.wrap .u64 ((IntKind.wrap .u64 (n13 * (IntKind.wrap .u64 16))) + (IntKind.wrap .u64 (IntKind.wrap .u8 (n27 - 48))))) (IntKind.wrap .i64 (i + 1))))))) (∃ n34 : Int, ((Fn Tryz.prog 224 [(TV.one (AV.fz (FV.int .u8 n27)))] [] (TV.one (AV.fz (FV.int .u8 n34))) []) ∧ (ifB (decide ((97 : Int) ≤ n34)) (∃ n35 : Int, ((Fn Tryz.prog 224 [(TV.one (AV.fz (FV.int .u8 n27)))] [] (TV.one (AV.fz (FV.int .u8 n35))) []) ∧ (ifB (decide (n35 ≤ 122)) (∃ n36 : Int, ((Fn Tryz.prog 224 [(TV.one (AV.fz (FV.int .u8 n27)))] [] (TV.one (AV.fz (FV.int .u8 n36))) []) ∧ (ifB (decide ((IntKind.wrap .u8 16) ≤ (IntKind.wrap .u8 ((IntKind.wrap .u8 (n36 - 97)) + 10)))) (R (TV.tup [(false, [(AV.fz (FV.int .u64 0))]), (false, [(AV.fz (FV.ifv 244 false [(FV.int .i64 2)]))])]) []) (ifB (decide ((1152921504606846976 : Int) ≤ n13)) (R (TV.tup [(false, [(AV.fz (FV.int .u64 (IntKind.wrap .u64 ((IntKind.wrap .u64 (1 * (2 ^ (min (Int.toNat (IntKind.wrap .u64 32)) 64)))) - 1))))]), (false, [(AV.fz (FV.ifv 244 false [(FV.int .i64 1)]))])]) []) (ifB (decide ((IntKind.wrap .u64 ((IntKind.wrap .u64 (n13 * (IntKind.wrap .u64 16))) + (IntKind.wrap .u64 (IntKind.wrap .u8 ((IntKind.wrap .u8 (n36 - 97)) + 10))))) < (IntKind.wrap .u64 (n13 * (IntKind.wrap .u64 16))))) (R (TV.tup [(false, [(AV.fz (FV.int .u64 (IntKind.wrap .u64 ((IntKind.wrap .u64 (1 * (2 ^ (min (Int.toNat (IntKind.wrap .u64 32)) 64)))) - 1))))]), (false, [(AV.fz (FV.ifv 244 false [(FV.int .i64 1)]))])]) []) (ifB (decide ((IntKind.wrap .u64 ((IntKind.wrap .u64 (1 * (2 ^ (min (Int.toNat (IntKind.wrap .u64 32)) 64)))) - 1)) < (IntKind.wrap .u64 ((IntKind.wrap .u64 (n13 * (IntKind.wrap .u64 16))) + (IntKind.wrap .u64 (IntKind.wrap .u8 ((IntKind.wrap .u8 (n36 - 97)) + 10))))))) (R (TV.tup [(false, [(AV.fz (FV.int .u64 (IntKind.wrap .u64 ((IntKind.wrap .u64 (1 * (2 ^ (min (Int.toNat (IntKind.wrap .u64 32)) 64)))) - 1))))]), (false, [(AV.fz (FV.ifv 244 false [(FV.int .i64 1)]))])]) []) (internal_strconv_ParseUint_L0 R s (IntKind.wrap .u64 ((IntKind.wrap .u64 (n13 * (IntKind.wrap .u64 16))) + (IntKind.wrap .u64 (IntKind.wrap .u8 ((IntKind.wrap .u8 (n36 - 97)) + 10))))) (IntKind.wrap .i64 (i + 1))))))))) (R (TV.tup [(false, [(AV.fz (FV.int .u64 0))]), (false, [(AV.fz (FV.ifv 244 false [(FV.int .i64 2)]))])]) [])))) (R (TV.tup [(false, [(AV.fz (FV.int .u64 0))]), (false, [(AV.fz (FV.ifv 244 false [(FV.int .i64 2)]))])]) []))))) (∃ n37 : Int, ((Fn Tryz.prog 224 [(TV.one (AV.fz (FV.int .u8 n27)))] [] (TV.one (AV.fz (FV.int .u8 n37))) []) ∧ (ifB (decide ((97 : Int) ≤ n37)) (∃ n38 : Int, ((Fn Tryz.prog 224 [(TV.one (AV.fz (FV.int .u8 n27)))] [] (TV.one (AV.fz (FV.int .u8 n38))) []) ∧ (ifB (decide (n38 ≤ 122)) (∃ n39 : Int, ((Fn Tryz.prog 224 [(TV.one (AV.fz (FV.int .u8 n27)))] [] (TV.one (AV.fz (FV.int .u8 n39))) []) ∧ (ifB (decide ((IntKind.wrap .u8 16) ≤ (IntKind.wrap .u8 ((IntKind.wrap .u8 (n39 - 97)) + 10)))) (R (TV.tup [(false, [(AV.fz (FV.int .u64 0))]), (false, [(AV.fz (FV.ifv 244 false [(FV.int .i64 2)]))])]) []) (ifB (decide ((1152921504606846976 : Int) ≤ n13)) (R (TV.tup [(false, [(AV.fz (FV.int .u64 (IntKind.wrap .u64 ((IntKind.wrap .u64 (1 * (2 ^ (min (Int.toNat (IntKind.wrap .u64 32)) 64)))) - 1))))]), (false, [(AV.fz (FV.ifv 244 false [(FV.int .i64 1)]))])]) []) (ifB (decide ((IntKind.wrap .u64 ((IntKind.wrap .u64 (n13 * (IntKind.wrap .u64 16))) + (IntKind.wrap .u64 (IntKind.wrap .u8 ((IntKind.wrap .u8 (n39 - 97)) + 10))))) < (IntKind.wrap .u64 (n13 * (IntKind.wrap .u64 16))))) (R (TV.tup [(false, [(AV.fz (FV.int .u64 (IntKind.wrap .u64 ((IntKind.wrap .u64 (1 * (2 ^ (min (Int.toNat (IntKind.wrap .u64 32)) 64)))) - 1))))]), (false, [(AV.fz (FV.ifv 244 false [(FV.int .i64 1)]))])]) []) (ifB (decide ((IntKind.wrap .u64 ((IntKind.wrap .u64 (1 * (2 ^ (min (Int.toNat (IntKind.wrap .u64 32)) 64)))) - 1)) < (IntKind.wrap .u64 ((IntKind.wrap .u64 (n13 * (IntKind.wrap .u64 16))) + (IntKind.wrap .u64 (IntKind.wrap .u8 ((IntKind.wrap .u8 (n39 - 97)) + 10))))))) (R (TV.tup [(false, [(AV.fz (FV.int .u64 (IntKind.wrap .u64 ((IntKind.wrap .u64 (1 * (2 ^ (min (Int.toNat (IntKind.wrap .u64 32)) 64)))) - 1))))]), (false, [(AV.fz (FV.ifv 244 false [(FV.int .i64 1)]))])]) []) (internal_strconv_ParseUint_L0 R s (IntKind.wrap .u64 ((IntKind.wrap .u64 (n13 * (IntKind.wrap .u64 16))) + (IntKind.wrap .u64 (IntKind.wrap .u8 ((IntKind.wrap .u8 (n39 - 97)) + 10))))) (IntKind.wrap .i64 (i + 1))))))))) (R (TV.tup [(false, [(AV.fz (FV.int .u64 0))]), (false, [(AV.fz (FV.ifv 244 false [(FV.int .i64 2)]))])]) [])))) (R (TV.tup [(false, [(AV.fz (FV.int .u64 0))]), (false, [(AV.fz (FV.ifv 244 false [(FV.int .i64 2)]))])]) []))))))))) (R (TV.tup [(false, [(AV.fz (FV.int .u64 n13))]), (false, [(AV.fz (FV.ifc false))])]) []))
theorem internal_strconv_ParseUint_l0 {R : TV → List Ob → Prop} {s : ByteArray} {n13 : Int} {i : Int} (h : internal_strconv_ParseUint_R0 R s n13 i) : internal_strconv_ParseUint_L0 R s n13 i :=
 LoopAt.by_tr (by kernel_rfl) (by kernel_rfl) h
def internal_strconv_ParseUint_H (R : TV → List Ob → Prop) (s : ByteArray) : Prop :=
 (ifB ((ByteArray.toList s) == (ByteArray.toList (ByteArray.mk #[]))) (R (TV.tup [(false, [(AV.fz (FV.int .u64 0))]), (false, [(AV.fz (FV.ifv 244 false [(FV.int .i64 2)]))])]) []) (((0 : Int) ≤ (IntKind.wrap .u64 32)) ∧ (internal_strconv_ParseUint_L0 R s 0 0)))
theorem internal_strconv_ParseUint_fn (s : ByteArray) {r : TV} {h : List Ob} (H : internal_strconv_ParseUint_H (fun r' h' => r' = r ∧ h' = h) s) : Fn Tryz.prog 212 [(TV.one (AV.fz (FV.str s))), (TV.one (AV.fz (FV.int .i64 16))), (TV.one (AV.fz (FV.int .i64 32)))] [] r h :=
 Fn.by_tr (M := (modeC [] [])) (lv := internal_strconv_ParseUint_lv) (own := none) (F := Tryz.f212) (by kernel_rfl) (by kernel_rfl) (by first | decide | simp) (fun _ _ h => h) (by kernel_rfl) H
end
section
def hexA : List Int → Int → Int
 | [], n => n
 | c :: r, n => hexA r (n * 16 + hexD c)
def hexOk (l : List Int) : Bool := l.all fun c => decide (0 ≤ hexD c)
theorem hexR_eq : ∀ (l : List Int) (n : Int), hexR l n = if hexOk l = true then (if scalB (hexA l n) = true then hexA l n else -1) else -1
 | [], n => rfl
 | c :: r, n => by
  have ih := hexR_eq r (n * 16 + hexD c)
  unfold hexR hexA
  by_cases h : hexD c < 0
  ·rw [if_pos h, if_neg]
   unfold hexOk
   simp
   omega
  ·rw [if_neg h, ih]
   have : hexOk (c :: r) = hexOk r := by
    unfold hexOk
    simp
    omega
   rw [this]
theorem hexD_lt (c : Int) : hexD c < 16 := by
 unfold hexD
 repeat' split
 all_goals omega
theorem hexA_bound : ∀ (l : List Int) (n B : Int), hexOk l = true → 0 ≤ n → n < B → 0 ≤ hexA l n ∧ hexA l n < B * 16 ^ l.length
 | [], n, B, h, h0, h1 => by simp [hexA, h0, h1]
 | c :: r, n, B, h, h0, h1 => by
  unfold hexOk at h
  simp only [List.all_cons, Bool.and_eq_true, decide_eq_true_eq] at h
  have := hexD_lt c
  have ih := hexA_bound r (n * 16 + hexD c) (B * 16) h.2 (by omega) (by omega)
  unfold hexA
  rw [List.length_cons, Int.pow_succ, Int.mul_comm (16 ^ r.length) 16, ← Int.mul_assoc]
  exact ih
theorem hex_tab : ∀ n : Fin 256, ([48, 49, 50, 51, 52, 53, 54, 55, 56, 57, 97, 98, 99, 100, 101, 102, 65, 66, 67, 68, 69, 70] : List UInt8).contains (UInt8.ofNat n.val) = decide (0 ≤ hexD (n.val : Int)) := by decide +kernel
theorem all_hex {X : List Int} (hX : Bytes X) : (X.map fun n => UInt8.ofNat n.toNat).all (([48, 49, 50, 51, 52, 53, 54, 55, 56, 57, 97, 98, 99, 100, 101, 102, 65, 66, 67, 68, 69, 70] : List UInt8).contains ·) = hexOk X := by
 unfold hexOk
 rw [Bool.eq_iff_iff, List.all_map, List.all_eq_true, List.all_eq_true]
 refine forall_congr' fun x => ⟨fun h hx => ?_, fun h hx => ?_⟩
 all_goals
  have h1 := h hx
  have h2 := hX x hx
  have h3 := hex_tab ⟨x.toNat, by omega⟩
  simp only at h3
  rw [show ((x.toNat : Nat) : Int) = x by omega] at h3
  simp only [Function.comp_apply] at h1 ⊢
 ·rw [← h3]; exact h1
 ·rw [h3]; exact h1
theorem trim_hex {X : List Int} (hX : Bytes X) : ((ByteArray.toList ⟨(Lib.trimS (bytesOf X).data.toList (ByteArray.mk #[48, 49, 50, 51, 52, 53, 54, 55, 56, 57, 97, 98, 99, 100, 101, 102, 65, 66, 67, 68, 69, 70]).data.toList).toArray⟩) == ByteArray.toList (ByteArray.mk #[])) = hexOk X := by
 rw [ByteArray.toList_eq, ByteArray.toList_eq, ← all_hex hX, data_of]
 generalize X.map (fun n => UInt8.ofNat n.toNat) = l
 rw [Bool.eq_iff_iff, ← trim_nil, beq_iff_eq]
 rfl
def lowV (c : Int) : Int := IntKind.wrap .u8 (((BitVec.toNat ((BitVec.ofInt 8 c) ||| (BitVec.ofInt 8 32))) : Nat) : Int)
theorem low_tab : ∀ n : Fin 256, 0 ≤ hexD (n.val : Int) → ¬ (48 ≤ (n.val : Int) ∧ (n.val : Int) ≤ 57) → lowV (n.val : Int) = hexD (n.val : Int) + 87 := by decide +kernel
theorem lower_ok (c : Int) : Fn Tryz.prog 224 [fzI .u8 c] [] (fzI .u8 (lowV c)) [] := by
 refine internal_strconv_lower_fn _ ?_
 unfold internal_strconv_lower_H
 exact ⟨rfl, rfl⟩
theorem ifB_t {b : Bool} {y n : Prop} (h : b = true) (hy : y) : ifB b y n := by rw [h]; exact hy
theorem ifB_f {b : Bool} {y n : Prop} (h : b = false) (hn : n) : ifB b y n := by rw [h]; exact hn
abbrev puT (n : Int) (b : Bool) : TV := .tup [(false, [.fz (.int .u64 n)]), (false, [.fz (.ifc b)])]
theorem pHex_loop (T : List Int) (hT : Bytes T) (hlen : T.length ≤ 6) (hok : hexOk T = true) (R : TV → List Ob → Prop) : ∀ (m i : Nat) (n : Int), T.length - i = m → i ≤ T.length → 0 ≤ n → n < 16 ^ i → R (puT (hexA (T.drop i) n) false) [] → internal_strconv_ParseUint_L0 R (bytesOf T) n i := by
 have p6 : (16 : Int) ^ 6 = 16777216 := by decide
 have hp : ∀ i : Nat, i ≤ 6 → (16 : Int) ^ i ≤ 16777216 := fun i hi => by rw [← p6]; exact pow_mono (by omega) hi
 intro m
 induction m with
 | zero =>
  intro i n hi hle h0 h1 hR
  refine internal_strconv_ParseUint_l0 ?_
  unfold internal_strconv_ParseUint_R0
  rw [map_bs, bs_of hT, ints_len]
  refine ifB_f (by simp; omega) ?_
  rw [List.drop_eq_nil_of_le (by omega)] at hR
  exact hR
 | succ m ih =>
  intro i n hi hle h0 h1 hR
  refine internal_strconv_ParseUint_l0 ?_
  unfold internal_strconv_ParseUint_R0
  have hlt : i < T.length := by omega
  have hb := hT.rd (by omega) i
  have hpi := hp i (by omega)
  have hp1 : (16 : Int) ^ (i + 1) = 16 ^ i * 16 := Int.pow_succ 16 i
  have hd0 : 0 ≤ hexD (rd T i) := by
   unfold hexOk at hok
   rw [List.all_eq_true] at hok
   have := hok _ (List.getElem_mem hlt)
   rw [← rd_at T i hlt] at this
   simpa using this
  have hd1 := hexD_lt (rd T i)
  have hlow := low_tab ⟨(rd T i).toNat, by omega⟩
  simp only at hlow
  rw [show (((rd T i).toNat : Nat) : Int) = rd T i by omega] at hlow
  have h95 : rd T i ≠ 95 := fun e => by rw [e] at hd0; exact absurd hd0 (by decide)
  rw [drop_rd' T i hlt] at hR
  unfold hexA at hR
  have next : internal_strconv_ParseUint_L0 R (bytesOf T) (n * 16 + hexD (rd T i)) (IntKind.wrap .i64 ((i : Int) + 1)) := by
   rw [w64 (by omega) (by omega)]
   have := ih (i + 1) (n * 16 + hexD (rd T i)) (by omega) (by omega) (by omega) (by rw [hp1]; omega) hR
   simpa using this
  have e16 : IntKind.wrap .u8 16 = 16 := rfl
  have e16' : IntKind.wrap .u64 16 = 16 := rfl
  have em : IntKind.wrap .u64 ((IntKind.wrap .u64 (1 * (2 ^ (min (Int.toNat (IntKind.wrap .u64 32)) 64)))) - 1) = 4294967295 := by decide +kernel
  rw [map_bs, bs_of hT, ints_len, Int.toNat_natCast]
  refine ifB_t (by simp; omega) ⟨by omega, rd T i, by simp [ints, some_rd hlt], ifB_f (by simpa using h95) ?_⟩
  rw [e16, e16', em, wu64 (n := n * 16) (by omega) (by omega)]
  have letters : ¬ (48 ≤ rd T i ∧ rd T i ≤ 57) → lowV (rd T i) = hexD (rd T i) + 87 ∧ 10 ≤ hexD (rd T i) := by
   intro h
   refine ⟨hlow hd0 h, ?_⟩
   unfold hexD at hd0 ⊢
   rw [if_neg h] at hd0 ⊢
   revert hd0
   repeat' split
   all_goals omega
  by_cases hdig : 48 ≤ rd T i ∧ rd T i ≤ 57
  ·have hD : hexD (rd T i) = rd T i - 48 := by unfold hexD; rw [if_pos hdig]
   rw [hD] at next
   refine ifB_t (by simp; omega) (ifB_t (by simp; omega) ?_)
   rw [wu8 (n := rd T i - 48) (by omega) (by omega), wu64 (n := rd T i - 48) (by omega) (by omega), wu64 (n := n * 16 + (rd T i - 48)) (by omega) (by omega)]
   exact ifB_f (by simp; omega) (ifB_f (by simp; omega) (ifB_f (by simp; omega) (ifB_f (by simp; omega) next)))
  ·obtain ⟨hl, h10⟩ := letters hdig
   have hlo := lower_ok (rd T i)
   rw [hl] at hlo
   by_cases h48 : 48 ≤ rd T i
   ·refine ifB_t (by simpa using h48) (ifB_f (by simp; omega) ⟨_, hlo, ?_⟩)
    refine ifB_t (by simp; omega) ⟨_, hlo, ifB_t (by simp; omega) ⟨_, hlo, ?_⟩⟩
    rw [wu8 (n := hexD (rd T i) + 87 - 97) (by omega) (by omega), wu8 (n := hexD (rd T i) + 87 - 97 + 10) (by omega) (by omega), wu64 (n := hexD (rd T i) + 87 - 97 + 10) (by omega) (by omega), wu64 (n := n * 16 + (hexD (rd T i) + 87 - 97 + 10)) (by omega) (by omega)]
    rw [show n * 16 + (hexD (rd T i) + 87 - 97 + 10) = n * 16 + hexD (rd T i) by omega]
    exact ifB_f (by simp; omega) (ifB_f (by simp; omega) (ifB_f (by simp; omega) (ifB_f (by simp; omega) next)))
   ·refine ifB_f (by simp; omega) ⟨_, hlo, ?_⟩
    refine ifB_t (by simp; omega) ⟨_, hlo, ifB_t (by simp; omega) ⟨_, hlo, ?_⟩⟩
    rw [wu8 (n := hexD (rd T i) + 87 - 97) (by omega) (by omega), wu8 (n := hexD (rd T i) + 87 - 97 + 10) (by omega) (by omega), wu64 (n := hexD (rd T i) + 87 - 97 + 10) (by omega) (by omega), wu64 (n := n * 16 + (hexD (rd T i) + 87 - 97 + 10)) (by omega) (by omega)]
    rw [show n * 16 + (hexD (rd T i) + 87 - 97 + 10) = n * 16 + hexD (rd T i) by omega]
    exact ifB_f (by simp; omega) (ifB_f (by simp; omega) (ifB_f (by simp; omega) (ifB_f (by simp; omega) next)))
end
section
open Go Go.RowKit
theorem chs_more : ∀ (f at_ : Nat) (l acc : List Int), (chs f l at_ acc).2 = -1 → l.length - at_ < f → acc.length ≤ (chs f l at_ acc).1.length ∧ (at_ < l.length → acc.length < (chs f l at_ acc).1.length)
 | 0, at_, l, acc, h, hf => by omega
 | f + 1, at_, l, acc, h, hf => by
  unfold chs at h ⊢
  split
  ·exact ⟨Nat.le_refl _, fun h => by omega⟩
  ·rename_i h1
   rw [if_neg h1] at h
   split
   ·rename_i h2
    rw [if_pos h2] at h
    simp only at h
    omega
   ·rename_i h2
    rw [if_neg h2] at h
    have hf2 : l.length - (at_ + (ch1 (l.drop at_)).2.toNat) < f ∨ (ch1 (l.drop at_)).2.toNat = 0 := by omega
    rcases hf2 with hf2 | hf2
    ·have := (chs_more f _ l _ h hf2).1
     rw [List.length_append, List.length_singleton] at this
     exact ⟨by omega, fun _ => by omega⟩
    ·exfalso
     have h3 : (ch1 (l.drop at_)).2 < 0 := by omega
     revert h3
     unfold ch1 chN
     repeat' split
     all_goals (simp only; omega)
def oneB (T : List Int) : Bool := decide (T ≠ [] ∧ (ch1 T).2 = (T.length : Int))
theorem chars_one {T : List Int} (hT : Bytes T) : ((chars T).2 = -1 ∧ (chars T).1.length = 1) ↔ oneB T = true := by
 unfold oneB
 rw [decide_eq_true_eq]
 cases T with
 | nil => simp [chars, chs]
 | cons x r =>
  have hb := ch1_bounds hT (by simp)
  have hd : (x :: r).drop 0 = x :: r := rfl
  unfold chars
  rw [show (x :: r).length + 1 = (r.length + 1) + 1 from rfl]
  unfold chs
  rw [if_neg (by simp), hd]
  by_cases h0 : (ch1 (x :: r)).2 = 0
  ·rw [if_pos h0]
   simp only [List.length_cons] at hb ⊢
   constructor
   ·rintro ⟨h, _⟩; simp at h
   ·rintro ⟨_, h⟩; omega
  ·rw [if_neg h0]
   constructor
   ·rintro ⟨h1, h2⟩
    refine ⟨by simp, ?_⟩
    by_cases hlt : 0 + (ch1 (x :: r)).2.toNat < (x :: r).length
    ·have := (chs_more (r.length + 1) _ _ _ h1 (by simp at hb ⊢; omega)).2 hlt
     simp only [List.length_append, List.length_nil, List.length_singleton] at this
     omega
    ·omega
   ·rintro ⟨_, h⟩
    unfold chs
    rw [if_pos (by omega)]
    simp
theorem chars_val {T : List Int} (h : oneB T = true) : rd (chars T).1 0 = (ch1 T).1 := by
 unfold oneB at h
 rw [decide_eq_true_eq] at h
 cases T with
 | nil => simp at h
 | cons x r =>
  have hd : (x :: r).drop 0 = x :: r := rfl
  unfold chars
  rw [show (x :: r).length + 1 = (r.length + 1) + 1 from rfl]
  unfold chs
  rw [if_neg (by simp), hd, if_neg (by have := h.2; simp at this; omega)]
  unfold chs
  rw [if_pos (by omega)]
  rfl
theorem namedV_one {T : List Int} (hT : Bytes T) (h : oneB T = true) : rd (chars T).1 0 = (ch1 T).1 ∧ 0 ≤ (ch1 T).1 := by
 refine ⟨chars_val h, ?_⟩
 unfold oneB at h
 rw [decide_eq_true_eq] at h
 exact (ch1_bounds hT h.1).1
abbrev namT (v : Int) : TV := .tup [(false, [.fz (.int .i64 (if 0 ≤ v then v else 0))]), (false, [.fz (.bool (decide (0 ≤ v)))])]
theorem namT_ok {v : Int} (h : 0 ≤ v) : namT v = .tup [(false, [.fz (.int .i64 v)]), (false, [.fz (.bool true)])] := by unfold namT; rw [if_pos h, decide_eq_true h]
theorem namT_bad {v : Int} (h : v < 0) : namT v = .tup [(false, [.fz (.int .i64 0)]), (false, [.fz (.bool false)])] := by unfold namT; rw [if_neg (by omega), decide_eq_false (by omega)]
theorem nm_l {T : List Int} (hT : Bytes T) (a : Array UInt8) (l : List Int) (hl : Bytes l) (h : ByteArray.mk a = bytesOf l) : (ByteArray.toList (ByteArray.mk a) == ByteArray.toList (bytesOf T)) = decide (l = T) := by
 rw [h]; exact eq_bytes hl hT
theorem nm0 : Bytes [115, 112, 97, 99, 101] ∧ ByteArray.mk #[115, 112, 97, 99, 101] = bytesOf [115, 112, 97, 99, 101] := ⟨by intro x hx; simp at hx; omega, by decide +kernel⟩
theorem nm1 : Bytes [110, 101, 119, 108, 105, 110, 101] ∧ ByteArray.mk #[110, 101, 119, 108, 105, 110, 101] = bytesOf [110, 101, 119, 108, 105, 110, 101] := ⟨by intro x hx; simp at hx; omega, by decide +kernel⟩
theorem nm2 : Bytes [116, 97, 98] ∧ ByteArray.mk #[116, 97, 98] = bytesOf [116, 97, 98] := ⟨by intro x hx; simp at hx; omega, by decide +kernel⟩
theorem nm3 : Bytes [114, 101, 116, 117, 114, 110] ∧ ByteArray.mk #[114, 101, 116, 117, 114, 110] = bytesOf [114, 101, 116, 117, 114, 110] := ⟨by intro x hx; simp at hx; omega, by decide +kernel⟩
theorem nm4 : Bytes [110, 117, 108, 108] ∧ ByteArray.mk #[110, 117, 108, 108] = bytesOf [110, 117, 108, 108] := ⟨by intro x hx; simp at hx; omega, by decide +kernel⟩
theorem nm5 : Bytes [100, 101, 108, 101, 116, 101] ∧ ByteArray.mk #[100, 101, 108, 101, 116, 101] = bytesOf [100, 101, 108, 101, 116, 101] := ⟨by intro x hx; simp at hx; omega, by decide +kernel⟩
theorem slPrefix_ok (T : List Int) (hT : Bytes T) (hlen : T.length ≤ 16777216) : Fn Tryz.prog 165 [.one (.fz (.str (bytesOf T))), .one (.fz (.str (ByteArray.mk #[120])))] [] (fzB (decide (T.head? = some 120))) [] := by
 refine internal_stringslite_HasPrefix_fn _ _ ?_
 obtain ⟨R, hR, hRe⟩ := exR (fzB (decide (T.head? = some 120))); rw [hRe]; clear hRe
 unfold internal_stringslite_HasPrefix_H
 have e1 : ((ByteArray.size (ByteArray.mk #[120]) : Nat) : Int) = 1 := rfl
 rw [e1, size_of, dec_t, dec_f, show Int.toNat 1 = 1 from rfl]
 refine ⟨fun h => ⟨⟨by omega, by omega⟩, ?_⟩, fun h => ?_⟩
 ·have e2 : ByteArray.mk #[120] = bytesOf [120] := by decide +kernel
  have hb : Bytes (((T.drop 0).take (1 - 0))) := fun x hx => hT x (List.mem_of_mem_drop (List.mem_of_mem_take hx))
  rw [extract_of, e2, eq_bytes hb (by intro x hx; simp at hx; omega)]
  cases T with
  | nil => simp at h
  | cons x r => simpa using hR
 ·cases T with
  | nil => simpa using hR
  | cons x r => simp at h; omega
abbrev cutR (T : List Int) : TV := .tup [(false, [.fz (.str (bytesOf (if T.head? = some 120 then T.drop 1 else T)))]), (false, [.fz (.bool (decide (T.head? = some 120)))])]
theorem slCut_ok (T : List Int) (hT : Bytes T) (hlen : T.length ≤ 16777216) : Fn Tryz.prog 211 [.one (.fz (.str (bytesOf T))), .one (.fz (.str (ByteArray.mk #[120])))] [] (cutR T) [] := by
 refine internal_stringslite_CutPrefix_fn _ _ ?_
 obtain ⟨R, hR, hRe⟩ := exR (cutR T); rw [hRe]; clear hRe
 unfold internal_stringslite_CutPrefix_H
 refine ⟨_, slPrefix_ok T hT hlen, ?_⟩
 have e1 : ((ByteArray.size (ByteArray.mk #[120]) : Nat) : Int) = 1 := rfl
 unfold cutR at hR
 rw [not_t, not_f, dec_f, dec_t, e1, size_of, show Int.toNat 1 = 1 from rfl]
 refine ⟨fun h => ?_, fun h => ?_⟩
 ·rw [if_neg h, decide_eq_false h] at hR; exact hR
 ·rw [if_pos h, decide_eq_true h] at hR
  have hl : 1 ≤ T.length := by cases T with
   | nil => simp at h
   | cons x r => simp
  refine ⟨⟨by omega, by omega⟩, ?_⟩
  rw [extract_of, List.take_of_length_le (by simp)]
  exact hR
theorem cutPrefix_ok (T : List Int) (hT : Bytes T) (hlen : T.length ≤ 16777216) : Fn Tryz.prog 185 [.one (.fz (.str (bytesOf T))), .one (.fz (.str (ByteArray.mk #[120])))] [] (cutR T) [] := by
 refine strings_CutPrefix_fn _ _ ?_
 unfold strings_CutPrefix_H
 exact ⟨_, _, slCut_ok T hT hlen, rfl, rfl⟩
theorem pHexI_ok (T : List Int) (hT : Bytes T) (hlen : T.length ≤ 6) (hne : T ≠ []) (hok : hexOk T = true) : Fn Tryz.prog 212 [.one (.fz (.str (bytesOf T))), fzI .i64 16, fzI .i64 32] [] (puT (hexA T 0) false) [] := by
 refine internal_strconv_ParseUint_fn _ ?_
 unfold internal_strconv_ParseUint_H
 have e : (ByteArray.toList (bytesOf T) == ByteArray.toList (ByteArray.mk #[])) = false := by
  have := eq_bytes (m := []) hT Bytes.nil
  rw [show (ByteArray.mk #[]) = bytesOf [] from rfl, this]
  simpa using hne
 refine ifB_f e ⟨by decide, ?_⟩
 exact pHex_loop T hT hlen hok _ _ 0 0 rfl (Nat.zero_le _) (by omega) (by simp) ⟨rfl, rfl⟩
theorem pHex_ok (T : List Int) (hT : Bytes T) (hlen : T.length ≤ 6) (hne : T ≠ []) (hok : hexOk T = true) : Fn Tryz.prog 186 [.one (.fz (.str (bytesOf T))), fzI .i64 16, fzI .i64 32] [] (puT (hexA T 0) false) [] := by
 refine strconv_ParseUint_fn _ ?_
 unfold strconv_ParseUint_H
 exact ⟨_, _, pHexI_ok T hT hlen hne hok, ifB_f rfl ⟨rfl, rfl⟩⟩
theorem DecodeInString_fn (T : List Int) : Fn Tryz.prog 87 [.one (.fz (.str (bytesOf T)))] [] (.tup [(false, [.fz (.int .i32 (deR T))]), (false, [.fz (.int .i64 (deN T))])]) [] := by
 intro ext w locs vals H hsz hrep
 obtain ⟨v, hv, hr⟩ := hrep 0 _ rfl
 have e : vals = #[v] := by
  apply Array.ext
  ·simpa using hsz
  ·intro i h1 h2
   have : i = 0 := by simp at h2; omega
   subst this
   rw [Array.getElem?_eq_getElem h1] at hv
   simpa using hv
 subst e
 replace hr : RF w (Bar ext locs []) (.str (bytesOf T)) v := hr
 cases hr
 refine (Tryz.utf8_DecodeRuneInString (bytesOf T) w (utf_tabs H.glob)).mono ?_
 rintro e w' ⟨rfl, hb⟩
 refine ⟨.tuple #[.int .i32 (deR T), .int .i64 (deN T)], locs, rfl, H.below hb, #[.int .i32 (deR T), .int .i64 (deN T)], rfl, rfl, fun i b' cs hi => ?_⟩
 match i with
 | 0 =>
  cases hi
  refine ⟨.int .i32 (deR T), rfl, [.int .i32 (deR T)], rfl, rfl, fun _ => rfl, fun j x hj => ?_⟩
  cases j with
  | zero => cases hj; exact ⟨_, rfl, .int _ _⟩
  | succ j => simp at hj
 | 1 =>
  cases hi
  refine ⟨.int .i64 (deN T), rfl, [.int .i64 (deN T)], rfl, rfl, fun _ => rfl, fun j x hj => ?_⟩
  cases j with
  | zero => cases hj; exact ⟨_, rfl, .int _ _⟩
  | succ j => simp at hj
 | i + 2 => simp at hi
theorem uNamed_ok (T : List Int) (hT : Bytes T) (hlen : T.length ≤ 16777216) : Fn Tryz.prog 159 [.one (.fz (.str (bytesOf T)))] [] (namT (namedV T)) [] := by
 refine utf_Named_fn _ ?_
 obtain ⟨R, hR, hRe⟩ := exR (namT (namedV T)); rw [hRe]; clear hRe
 unfold namedV at hR
 unfold utf_Named_H
 refine utf_Named_l0 ?_
 unfold utf_Named_R0
 refine ⟨fun _ => ⟨by omega, 32, ByteArray.mk #[115, 112, 97, 99, 101], rfl, ?_, ?_⟩, fun h => absurd h (by decide)⟩ <;> rw [nm_l hT _ _ nm0.1 nm0.2]
 ·exact fun h => (by rw [if_pos (of_decide_eq_true h).symm, namT_ok (by omega)] at hR; exact hR)
 intro n0
 replace n0 : ¬ T = [115, 112, 97, 99, 101] := fun h => of_decide_eq_false n0 h.symm
 rw [if_neg n0] at hR
 rw [w64 (by omega) (by omega)]
 refine utf_Named_l0 ?_
 unfold utf_Named_R0
 refine ⟨fun _ => ⟨by omega, 10, ByteArray.mk #[110, 101, 119, 108, 105, 110, 101], rfl, ?_, ?_⟩, fun h => absurd h (by decide)⟩ <;> rw [nm_l hT _ _ nm1.1 nm1.2]
 ·exact fun h => (by rw [if_pos (of_decide_eq_true h).symm, namT_ok (by omega)] at hR; exact hR)
 intro n1
 replace n1 : ¬ T = [110, 101, 119, 108, 105, 110, 101] := fun h => of_decide_eq_false n1 h.symm
 rw [if_neg n1] at hR
 rw [w64 (by omega) (by omega)]
 refine utf_Named_l0 ?_
 unfold utf_Named_R0
 refine ⟨fun _ => ⟨by omega, 9, ByteArray.mk #[116, 97, 98], rfl, ?_, ?_⟩, fun h => absurd h (by decide)⟩ <;> rw [nm_l hT _ _ nm2.1 nm2.2]
 ·exact fun h => (by rw [if_pos (of_decide_eq_true h).symm, namT_ok (by omega)] at hR; exact hR)
 intro n2
 replace n2 : ¬ T = [116, 97, 98] := fun h => of_decide_eq_false n2 h.symm
 rw [if_neg n2] at hR
 rw [w64 (by omega) (by omega)]
 refine utf_Named_l0 ?_
 unfold utf_Named_R0
 refine ⟨fun _ => ⟨by omega, 13, ByteArray.mk #[114, 101, 116, 117, 114, 110], rfl, ?_, ?_⟩, fun h => absurd h (by decide)⟩ <;> rw [nm_l hT _ _ nm3.1 nm3.2]
 ·exact fun h => (by rw [if_pos (of_decide_eq_true h).symm, namT_ok (by omega)] at hR; exact hR)
 intro n3
 replace n3 : ¬ T = [114, 101, 116, 117, 114, 110] := fun h => of_decide_eq_false n3 h.symm
 rw [if_neg n3] at hR
 rw [w64 (by omega) (by omega)]
 refine utf_Named_l0 ?_
 unfold utf_Named_R0
 refine ⟨fun _ => ⟨by omega, 0, ByteArray.mk #[110, 117, 108, 108], rfl, ?_, ?_⟩, fun h => absurd h (by decide)⟩ <;> rw [nm_l hT _ _ nm4.1 nm4.2]
 ·exact fun h => (by rw [if_pos (of_decide_eq_true h).symm, namT_ok (by omega)] at hR; exact hR)
 intro n4
 replace n4 : ¬ T = [110, 117, 108, 108] := fun h => of_decide_eq_false n4 h.symm
 rw [if_neg n4] at hR
 rw [w64 (by omega) (by omega)]
 refine utf_Named_l0 ?_
 unfold utf_Named_R0
 refine ⟨fun _ => ⟨by omega, 127, ByteArray.mk #[100, 101, 108, 101, 116, 101], rfl, ?_, ?_⟩, fun h => absurd h (by decide)⟩ <;> rw [nm_l hT _ _ nm5.1 nm5.2]
 ·exact fun h => (by rw [if_pos (of_decide_eq_true h).symm, namT_ok (by omega)] at hR; exact hR)
 intro n5
 replace n5 : ¬ T = [100, 101, 108, 101, 116, 101] := fun h => of_decide_eq_false n5 h.symm
 rw [if_neg n5] at hR
 rw [w64 (by omega) (by omega)]
 refine utf_Named_l0 ?_
 unfold utf_Named_R0
 refine ⟨fun h => absurd h (by decide), fun _ => ⟨_, _, DecodeInString_fn T, ?_⟩⟩
 rw [size_of]
 by_cases h1 : oneB T = true
 ·have hc := (chars_one hT).2 h1
  obtain ⟨q1, q2⟩ := namedV_one hT h1
  rw [if_pos hc, q1, namT_ok q2] at hR
  have h1' := h1
  unfold oneB at h1'
  rw [decide_eq_true_eq] at h1'
  have hl : T.length ≠ 0 := fun e => h1'.1 (List.length_eq_zero_iff.1 e)
  rcases de_ch1 hT h1'.1 with ⟨c1, c2, c3⟩ | ⟨c1, c2⟩
  ·rw [c1] at h1'; simp at h1'; omega
  ·have g1 : (ch1 T).1 = deR T := by rw [c1]
   have g2 : (ch1 T).2 = deN T := by rw [c1]
   have hb := ch1_bounds hT h1'.1
   rw [g1] at hR q2 hb
   simp only [beq_t, beq_f, dec_t, dec_f, bne_t, bne_f, w64 (n := deR T) (by omega) (by omega)]
   refine ⟨fun _ => ⟨fun _ => ⟨fun _ => hR, fun h => ⟨fun _ => hR, fun h => by omega⟩⟩, fun h => by omega⟩, fun h => by omega⟩
 ·have hc : ¬ ((chars T).2 = -1 ∧ (chars T).1.length = 1) := fun h => h1 ((chars_one hT).1 h)
  rw [if_neg hc] at hR
  have ht := hR
  have hx1 : T ≠ [120] := fun e => h1 (by rw [e]; decide +kernel)
  have head_rd' : (2 ≤ T.length ∧ rd T 0 = 120) → T.head? = some 120 := fun hx => by
   cases T with
   | nil => simp at hx
   | cons x r => simpa [rd] using hx.2
  have tailG : ∀ G : Prop, (R (namT (if 2 ≤ T.length ∧ rd T 0 = 120 then hexV (T.drop 1) else -1)) [] → G) → G := fun G h => h ht
  simp only [beq_t, beq_f, dec_t, dec_f, bne_t, bne_f]
  have no : ¬ (deN T = (T.length : Int) ∧ 0 < deN T ∧ (deR T ≠ 65533 ∨ 1 < deN T)) := by
   rintro ⟨a1, a2, a3⟩
   have hne : T ≠ [] := fun e => by rw [e] at a1 a2; simp at a1; omega
   rcases de_ch1 hT hne with ⟨c1, c2, c3⟩ | ⟨c1, c2⟩
   ·omega
   ·refine h1 ?_
    unfold oneB
    rw [decide_eq_true_eq, c1]
    exact ⟨hne, a1⟩
  refine ⟨fun a1 => ⟨fun a2 => ⟨fun a3 => absurd ⟨a1, a2, .inl a3⟩ no, fun a3 => ⟨fun a4 => absurd ⟨a1, a2, .inr a4⟩ no, fun a4 => ?_⟩⟩, fun a2 => ?_⟩, fun a1 => ?_⟩
  all_goals
   refine ⟨_, _, cutPrefix_ok T hT hlen, ?_⟩
   simp only [not_t, not_f, dec_t, dec_f]
   refine ⟨fun hp => ?_, fun hp => ?_⟩
   ·rw [if_neg (fun hx => hp (head_rd' hx)), namT_bad (by omega)] at ht; exact ht
   ·have hl : T ≠ [] := fun e => by rw [e] at hp; simp at hp
    have h120 : rd T 0 = 120 := by cases T with
     | nil => simp at hp
     | cons x r => simpa [rd] using hp
    rw [if_pos hp]
    simp only [size_of]
    have hl2 : 2 ≤ T.length := by
     cases T with
     | nil => simp at hl
     | cons x r => cases r with
      | nil => exact absurd (by simpa using hp) hx1
      | cons y r => simp
    rw [if_pos ⟨hl2, h120⟩] at ht
    unfold hexV at ht
    rw [List.length_drop] at ht ⊢
    refine ⟨fun h6 => ?_, fun h6 => ?_⟩
    ·rw [if_neg (by omega), namT_bad (by omega)] at ht; exact ht
    ·rw [if_pos (by omega), hexR_eq] at ht
     refine ⟨_, Trim_fn (bytesOf (T.drop 1)) _ (by rw [size_of]; simp; omega) (by decide) (by decide +kernel), ?_⟩
     rw [trim_hex (drop_bytes hT 1)]
     refine ⟨fun hx => ?_, fun hx => ?_⟩
     ·rw [if_neg (by rw [hx]; simp), namT_bad (by omega)] at ht; exact ht
     ·rw [if_pos hx] at ht
      have hb := hexA_bound (T.drop 1) 0 1 hx (by omega) (by omega)
      have p6 : (1 : Int) * 16 ^ (T.drop 1).length ≤ 16777216 := by
       have : (16 : Int) ^ 6 = 16777216 := by decide
       rw [Int.one_mul, ← this]
       exact pow_mono (by omega) (by simp; omega)
      refine ⟨_, _, pHex_ok (T.drop 1) (drop_bytes hT 1) (by simp; omega) (fun e => by have := congrArg List.length e; simp at this; omega) hx, ?_⟩
      refine ⟨fun h => absurd h (by decide), fun _ => ⟨_, uScalar_ok _, ?_⟩⟩
      rw [w64 (by omega) (by omega)]
      refine ⟨fun hs => ?_, fun hs => ?_⟩
      ·rw [if_neg (by rw [hs]; simp), namT_bad (by omega)] at ht; exact ht
      ·rw [if_pos hs, namT_ok (by omega)] at ht; exact ht
end
section
abbrev scM (t : List Int) (p : Nat) : List Ob := [.g 110 [.fz (.sl 1 (ints .i64 t)), .fz (.int .i64 ((p : Nat) : Int))]]
abbrev scP : TV := .one (.ptr 0 0 0 110)
theorem pkL_lt {l : List Int} {i : Nat} (h : i < l.length) : pkL l i = rd l i := if_pos h
theorem pkL_ge {l : List Int} {i : Nat} (h : l.length ≤ i) : pkL l i = -1 := if_neg (by omega)
theorem sLeft_ok (t : List Int) (p n : Nat) (hp : p ≤ 1000000000) (hn : n ≤ 1000000000) : Fn Tryz.prog 67 [scP, fzI .i64 ((n : Nat) : Int)] (scM t p) (fzB (decide (p + n ≤ t.length))) (scM t p) := by
 refine token_scanner_leftO_fn _ _ _ ?_
 obtain ⟨R, hR, hRe⟩ := exW (fzB (decide (p + n ≤ t.length))) (scM t p); rw [hRe]; clear hRe
 unfold token_scanner_leftO_H
 rw [w64 (by omega) (by omega), ints_len]
 have : decide ((p : Int) + (n : Int) ≤ (t.length : Int)) = decide (p + n ≤ t.length) := by rw [decide_eq_decide]; omega
 rw [this]
 exact hR _ (Wk.refl _)
theorem sPeek_ok (t : List Int) (p n : Nat) (hp : p ≤ 1000000000) (hn : n ≤ 1000000) : Fn Tryz.prog 101 [scP, fzI .i64 ((n : Nat) : Int)] (scM t p) (fzI .i64 (pkL t (p + n))) (scM t p) := by
 refine token_scanner_peekO_fn _ _ _ ?_
 obtain ⟨R, hR, hRe⟩ := exW (fzI .i64 (pkL t (p + n))) (scM t p); rw [hRe]; clear hRe
 unfold token_scanner_peekO_H
 have hl := sLeft_ok t p (n + 1) hp (by omega)
 rw [show ((n + 1 : Nat) : Int) = (n : Int) + 1 by omega] at hl
 rw [w64 (n := (n : Int) + 1) (by omega) (by omega)]
 refine ⟨_, _, _, hl, ?_⟩
 simp only [not_t, not_f, dec_t, dec_f, decide_eq_true_eq, decide_eq_false_iff_not]
 refine ⟨fun h => ?_, fun h => ?_⟩
 ·rw [pkL_ge (by omega)] at hR; exact hR _ (Wk.refl _)
 ·rw [pkL_lt (by omega)] at hR
  rw [w64 (by omega) (by omega)]
  exact ⟨by omega, rd t (p + n), by rw [show Int.toNat ((p : Int) + (n : Int)) = p + n by omega]; simp [ints, some_rd (show p + n < t.length by omega)], hR _ (Wk.refl _)⟩
theorem sBlanks_loop (t : List Int) (hlen : t.length ≤ 100000000) (R : TV → List Ob → Prop) : ∀ (m q : Nat), t.length - q = m → q ≤ t.length →
  ((∀ h', Wk h' (scM t (q + blC false (t.drop q))) → R (.tup []) h') → token_scanner_blanksO_L0 R (ints .i64 t) q) ∧
  ((∀ h', Wk h' (scM t (q + blC true (t.drop q))) → R (.tup []) h') → token_scanner_blanksO_L1 R (ints .i64 t) q) := by
 intro m
 induction m with
 | zero =>
  intro q hq hle
  have hd : t.drop q = [] := List.drop_eq_nil_of_le (by omega)
  have hp := sPeek_ok t q 0 (by omega) (by omega)
  rw [pkL_ge (by omega)] at hp
  have h0 : (∀ h', Wk h' (scM t q) → R (.tup []) h') → token_scanner_blanksO_L0 R (ints .i64 t) q := fun hR => by
   refine token_scanner_blanksO_l0 ?_
   unfold token_scanner_blanksO_R0
   refine ⟨_, _, _, hp, fun h => absurd h (by decide), fun _ => ⟨fun h => absurd h (by decide), fun _ => hR _ (Wk.refl _)⟩⟩
  refine ⟨fun hR => ?_, fun hR => ?_⟩
  ·rw [hd] at hR; exact h0 hR
  ·rw [hd] at hR
   refine token_scanner_blanksO_l1 ?_
   unfold token_scanner_blanksO_R1
   refine ⟨_, _, _, sLeft_ok t q 1 (by omega) (by omega), fun h => ?_, fun _ => h0 hR⟩
   simp at h; omega
 | succ m ih =>
  intro q hq hle
  have hlt : q < t.length := by omega
  have hp := sPeek_ok t q 0 (by omega) (by omega)
  rw [Nat.add_zero, pkL_lt hlt] at hp
  have hl := sLeft_ok t q 1 (by omega) (by omega)
  rw [decide_eq_true (by omega)] at hl
  have hd := drop_rd' t q hlt
  obtain ⟨ih0, ih1⟩ := ih (q + 1) (by omega) (by omega)
  have e : IntKind.wrap .i64 ((q : Int) + 1) = ((q + 1 : Nat) : Int) := w64 (by omega) (by omega)
  have h0 : (∀ h', Wk h' (scM t (q + blC false (t.drop q))) → R (.tup []) h') → token_scanner_blanksO_L0 R (ints .i64 t) q := fun hR => by
   rw [hd] at hR
   unfold blC at hR
   refine token_scanner_blanksO_l0 ?_
   unfold token_scanner_blanksO_R0
   refine ⟨_, _, _, hp, ?_⟩
   simp only [dec_t, dec_f, beq_t, beq_f, e]
   have semi : rd t q = 59 → token_scanner_blanksO_L1 R (ints .i64 t) q := fun h => by
    rw [if_neg (by rw [h]; decide), if_pos h] at hR
    refine token_scanner_blanksO_l1 ?_
    unfold token_scanner_blanksO_R1
    refine ⟨_, _, _, hl, fun _ => ⟨_, _, _, hp, ?_⟩, fun h => absurd h (by decide)⟩
    simp only [bne_t, bne_f, e]
    refine ⟨fun _ => ih1 ?_, fun h => by omega⟩
    rw [show q + (blC true (t.drop (q + 1)) + 1) = q + 1 + blC true (t.drop (q + 1)) by omega] at hR
    exact hR
   have out : blankB (rd t q) = false → rd t q ≠ 59 → R (.tup []) (scM t q) := fun h1 h2 => by
    rw [if_neg (by rw [h1]; simp), if_neg h2] at hR
    exact hR _ (Wk.refl _)
   refine ⟨fun _ => ⟨_, uBlank_ok _, fun hb => ?_, fun hb => ⟨semi, out hb⟩⟩, fun h => ⟨semi, out ?_⟩⟩
   ·rw [if_pos hb, show q + (blC false (t.drop (q + 1)) + 1) = q + 1 + blC false (t.drop (q + 1)) by omega] at hR
    exact ih0 hR
   ·unfold blankB; rw [decide_eq_false_iff_not]; omega
  refine ⟨h0, fun hR => ?_⟩
  refine token_scanner_blanksO_l1 ?_
  unfold token_scanner_blanksO_R1
  refine ⟨_, _, _, hl, fun _ => ⟨_, _, _, hp, ?_⟩, fun h => absurd h (by decide)⟩
  simp only [bne_t, bne_f, e]
  refine ⟨fun h => ih1 ?_, fun h => h0 ?_⟩
  ·rw [hd] at hR
   unfold blC at hR
   rw [if_neg h, show q + (blC true (t.drop (q + 1)) + 1) = q + 1 + blC true (t.drop (q + 1)) by omega] at hR
   exact hR
  ·have hb : blC true (t.drop q) = blC false (t.drop q) := by
    rw [hd, h]; rfl
   rw [← hb]; exact hR
theorem sBlanks_ok (t : List Int) (hlen : t.length ≤ 100000000) (q : Nat) (hq : q ≤ t.length) : Fn Tryz.prog 66 [scP] (scM t q) (.tup []) (scM t (q + blC false (t.drop q))) := by
 refine token_scanner_blanksO_fn _ _ ?_
 obtain ⟨R, hR, hRe⟩ := exW (.tup []) (scM t (q + blC false (t.drop q))); rw [hRe]; clear hRe
 unfold token_scanner_blanksO_H
 exact (sBlanks_loop t hlen R _ q rfl hq).1 hR
theorem enc_map (l : List Int) : ints .u8 (enc l) = List.map (fun n => [FV.int .u8 n]) (enc l) := rfl
theorem sWhile_loop (t : List Int) (hs : Scals t) (hlen : t.length ≤ 100000000) (p : Nat) (R : TV → List Ob → Prop) : ∀ (m q : Nat), t.length - q = m → q ≤ t.length → p ≤ q →
  (∀ h', Wk h' (scM t (q + untilN (t.drop q))) → R (.one (.fz (.str (bytesOf (enc ((t.drop p).take (q + untilN (t.drop q) - p))))))) h') → token_scanner_whileO_L0 R p (ints .i64 t) q := by
 intro m
 have fin : ∀ q, q ≤ t.length → p ≤ q → ∀ G : TV → List Ob → Prop, (∀ h', Wk h' (scM t q) → G (.one (.fz (.str (bytesOf (enc ((t.drop p).take (q - p))))))) h') →
   ((0 : Int) ≤ (p : Int) ∧ (p : Int) ≤ (q : Int) ∧ (q : Int) ≤ (((ints .i64 t).length : Nat) : Int)) ∧ ∃ es10 : LL, ∃ n18 : Int, (Fn Tryz.prog 157 [.one (.fz (.sl 1 (List.drop (Int.toNat p) (List.take (Int.toNat q) (ints .i64 t)))))] [] (.tup [(false, [.fz (.sl 1 es10)]), (false, [.fz (.int .i64 n18)])]) []) ∧ ∃ ns4 : List Int, (es10 = List.map (fun n19 => [FV.int .u8 n19]) ns4) ∧ G (.one (.fz (.str (bytesOf ns4)))) (scM t q) := by
  intro q h1 h2 G hG
  rw [ints_len, Int.toNat_natCast, Int.toNat_natCast, ints_take, ints_drop]
  have e1 : (t.take q).drop p = (t.drop p).take (q - p) := List.drop_take
  rw [e1]
  exact ⟨⟨by omega, by omega, by omega⟩, _, _, uEncode_ok _ ((hs.drop p).take _) (by simp; omega), _, enc_map _, hG _ (Wk.refl _)⟩
 induction m with
 | zero =>
  intro q hq hle hpq hR
  rw [List.drop_eq_nil_of_le (show t.length ≤ q by omega)] at hR
  refine token_scanner_whileO_l0 ?_
  unfold token_scanner_whileO_R0
  refine ⟨_, _, _, sLeft_ok t q 1 (by omega) (by omega), fun h => ?_, fun _ => fin q hle hpq R hR⟩
  simp at h; omega
 | succ m ih =>
  intro q hq hle hpq hR
  have hlt : q < t.length := by omega
  have hp := sPeek_ok t q 0 (by omega) (by omega)
  rw [Nat.add_zero, pkL_lt hlt] at hp
  have hl := sLeft_ok t q 1 (by omega) (by omega)
  rw [decide_eq_true (by omega)] at hl
  rw [drop_rd' t q hlt] at hR
  unfold untilN at hR
  have e : IntKind.wrap .i64 ((q : Int) + 1) = ((q + 1 : Nat) : Int) := w64 (by omega) (by omega)
  refine token_scanner_whileO_l0 ?_
  unfold token_scanner_whileO_R0
  refine ⟨_, _, _, hl, fun _ => ⟨_, _, _, hp, _, uEnds_ok _, ?_⟩, fun h => absurd h (by decide)⟩
  simp only [not_t, not_f]
  refine ⟨fun he => ?_, fun he => ?_⟩
  ·rw [if_neg (by rw [he]; simp), show q + (untilN (t.drop (q + 1)) + 1) = q + 1 + untilN (t.drop (q + 1)) by omega] at hR
   rw [e]
   exact ih (q + 1) (by omega) (by omega) (by omega) hR
  ·rw [if_pos he] at hR
   exact fin q hle hpq R hR
theorem sWhile_ok (t : List Int) (hs : Scals t) (hlen : t.length ≤ 100000000) (p k : Nat) (hq : p + k ≤ t.length) :
  Fn Tryz.prog 134 [scP, fzI .i64 ((k : Nat) : Int)] (scM t p) (.one (.fz (.str (bytesOf (enc ((t.drop p).take (k + untilN (t.drop (p + k))))))))) (scM t (p + k + untilN (t.drop (p + k)))) := by
 refine token_scanner_whileO_fn _ _ _ ?_
 obtain ⟨R, hR, hRe⟩ := exW (.one (.fz (.str (bytesOf (enc ((t.drop p).take (k + untilN (t.drop (p + k))))))))) (scM t (p + k + untilN (t.drop (p + k)))); rw [hRe]; clear hRe
 unfold token_scanner_whileO_H
 rw [w64 (by omega) (by omega)]
 have := sWhile_loop t hs hlen p R _ (p + k) rfl hq (by omega) (fun h' hw => by
  rw [show p + k + untilN (t.drop (p + k)) - p = k + untilN (t.drop (p + k)) by omega]
  exact hR h' hw)
 exact this
def hereB : List Int → List Int → Bool
 | [], _ => true
 | _ :: _, [] => false
 | w :: W, c :: T => decide (c = w) && hereB W T
theorem sHere_loop (t : List Int) (hs : Scals t) (hlen : t.length ≤ 100000000) (p : Nat) (hp : p ≤ t.length) (W : List Int) (hW : Bytes W) (hWl : W.length ≤ 1000) (R : TV → List Ob → Prop) : ∀ (m i : Nat), W.length - i = m → i ≤ W.length →
  (∀ h', Wk h' (scM t p) → R (fzB (hereB (W.drop i) (t.drop (p + i)))) h') → token_scanner_hereO_L0 R (bytesOf W) i (ints .i64 t) p := by
 intro m
 induction m with
 | zero =>
  intro i hi hle hR
  rw [List.drop_eq_nil_of_le (show W.length ≤ i by omega)] at hR
  refine token_scanner_hereO_l0 ?_
  unfold token_scanner_hereO_R0
  rw [size_of]
  refine ⟨fun h => absurd (of_decide_eq_true h) (by omega), fun _ => hR _ (Wk.refl _)⟩
 | succ m ih =>
  intro i hi hle hR
  have hlt : i < W.length := by omega
  obtain ⟨c, hc, hcv⟩ := byte_at hW hlt
  have hb := hW.rd (by omega) i
  rw [drop_rd' W i hlt] at hR
  refine token_scanner_hereO_l0 ?_
  unfold token_scanner_hereO_R0
  rw [size_of]
  refine ⟨fun _ => ⟨_, _, _, sPeek_ok t p i (by omega) (by omega), by omega, c, by rw [Int.toNat_natCast]; exact hc, ?_⟩, fun h => absurd (of_decide_eq_false h) (by omega)⟩
  rw [hcv, w64 (n := rd W i) (by omega) (by omega)]
  simp only [bne_t, bne_f]
  refine ⟨fun hne => ?_, fun heq => ?_⟩
  ·have hx : hereB (rd W i :: W.drop (i + 1)) (t.drop (p + i)) = false := by
    by_cases hpt : p + i < t.length
    ·rw [pkL_lt hpt] at hne
     rw [drop_rd' t (p + i) hpt]
     unfold hereB
     rw [decide_eq_false hne, Bool.false_and]
    ·rw [List.drop_eq_nil_of_le (show t.length ≤ p + i by omega)]; rfl
   rw [hx] at hR
   exact hR _ (Wk.refl _)
  ·have hpt : p + i < t.length := by
    unfold pkL at heq
    split at heq
    ·assumption
    ·omega
   rw [pkL_lt hpt] at heq
   rw [drop_rd' t (p + i) hpt] at hR
   unfold hereB at hR
   rw [decide_eq_true heq, Bool.true_and] at hR
   rw [w64 (by omega) (by omega)]
   exact ih (i + 1) (by omega) (by omega) hR
theorem sHere_ok (t : List Int) (hs : Scals t) (hlen : t.length ≤ 100000000) (p : Nat) (hp : p ≤ t.length) (W : List Int) (hW : Bytes W) (hWl : W.length ≤ 1000) :
  Fn Tryz.prog 103 [scP, .one (.fz (.str (bytesOf W)))] (scM t p) (fzB (hereB W (t.drop p))) (scM t p) := by
 refine token_scanner_hereO_fn _ _ _ ?_
 obtain ⟨R, hR, hRe⟩ := exW (fzB (hereB W (t.drop p))) (scM t p); rw [hRe]; clear hRe
 unfold token_scanner_hereO_H
 exact sHere_loop t hs hlen p hp W hW hWl R _ 0 rfl (Nat.zero_le _) hR
end
section
theorem ch1_ascii {c : Int} {r : List Int} (h : c < 128) : ch1 (c :: r) = (c, 1) := by
 unfold ch1 chN
 have : rd (c :: r) 0 = c := rfl
 rw [this, if_pos h]
theorem namedV_x {B : List Int} (hB : Bytes B) (hne : B ≠ []) : namedV (120 :: B) = hexV B := by
 have hb : Bytes (120 :: B) := by
  intro x hx
  rcases List.mem_cons.1 hx with rfl | hx
  ·omega
  ·exact hB x hx
 have hl : B.length ≠ 0 := fun e => hne (List.length_eq_zero_iff.1 e)
 have no : ¬ ((chars (120 :: B)).2 = -1 ∧ (chars (120 :: B)).1.length = 1) := by
  rw [chars_one hb]
  unfold oneB
  rw [ch1_ascii (by omega)]
  simp
  omega
 unfold namedV
 rw [if_neg (by simp), if_neg (by simp), if_neg (by simp), if_neg (by simp), if_neg (by simp), if_neg (by simp), if_neg no, if_pos ⟨by simp; omega, rfl⟩]
 rfl
theorem hexV_nil : hexV [] = -1 := by unfold hexV; rw [if_neg (by simp)]
theorem x_of (X : List Int) : ByteArray.mk #[120] ++ bytesOf X = bytesOf (120 :: X) := by
 have e : ByteArray.mk #[120] = bytesOf [120] := by decide +kernel
 rw [e, app_of]; rfl
def hxV (r : List Int) : Int := if pkL r (semN 7 r) = 59 then hexV (enc (r.take (semN 7 r))) else -1
def hxQ (r : List Int) : Nat := if pkL r (semN 7 r) = 59 ∧ semN 7 r ≠ 0 then semN 7 r + 1 else semN 7 r
theorem enc_ne {l : List Int} (hs : Scals l) (h : l ≠ []) : enc l ≠ [] := by
 cases l with
 | nil => exact absurd rfl h
 | cons c r =>
  rw [enc_cons]
  have := utfB_len c
  intro e
  have e2 := congrArg List.length e
  rw [List.length_append] at e2
  simp at e2
  split at this <;> (try split at this) <;> (try split at this) <;> simp [e2.1] at this
theorem sHex_loop (t : List Int) (hs : Scals t) (hlen : t.length ≤ 100000000) (p : Nat) (hp : p ≤ t.length) (R : TV → List Ob → Prop)
  (hR : ∀ h', Wk h' (scM t (p + hxQ (t.drop p))) → R (fzI .i64 (hxV (t.drop p))) h') : ∀ (m j : Nat), t.length - (p + j) = m → j ≤ semN 7 (t.drop p) → token_scanner_hexO_L0 R p (ints .i64 t) ((p + j : Nat) : Int) := by
 obtain ⟨s1, s2⟩ := semN_spec 7 (t.drop p)
 obtain ⟨l1, l2⟩ := semN_le 7 (t.drop p)
 have hdl : (t.drop p).length = t.length - p := List.length_drop
 have hpk : pkL (t.drop p) (semN 7 (t.drop p)) = pkL t (p + semN 7 (t.drop p)) := pkL_drop _ _ _
 unfold hxV hxQ at hR
 rw [hpk] at hR
 generalize semN 7 (t.drop p) = s at *
 have hscal : Scals ((t.drop p).take s) := (hs.drop p).take s
 have hne : s ≠ 0 → p + s ≤ t.length → enc ((t.drop p).take s) ≠ [] := fun h0 h1 => enc_ne hscal (fun e => by have := congrArg List.length e; simp at this; omega)
 have hbx : Bytes (enc ((t.drop p).take s)) := enc_bytes hscal
 have hbl : (enc ((t.drop p).take s)).length ≤ 28 := by
  have := enc_len ((t.drop p).take s)
  have h2 : ((t.drop p).take s).length ≤ 7 := by simp; omega
  omega
 intro m
 induction m using Nat.strongRecOn with
 | _ m ih =>
 intro j hj hle
 have hlj := sLeft_ok t (p + j) 1 (by omega) (by omega)
 have hpj := sPeek_ok t (p + j) 0 (by omega) (by omega)
 rw [Nat.add_zero] at hpj
 refine token_scanner_hexO_l0 ?_
 unfold token_scanner_hexO_R0
 refine ⟨_, _, _, hlj, fun hl => ?in_, fun hl => ?out⟩
 case' in_ =>
  have hl' : p + j + 1 ≤ t.length := of_decide_eq_true hl
  refine ⟨_, _, _, hpj, ?_⟩
  simp only [bne_t, bne_f, dec_t, dec_f]
  rw [pkL_lt (by omega), w64 (n := ((p + j : Nat) : Int) - (p : Int)) (by omega) (by omega)]
  refine ⟨fun h59 => ⟨fun h7 => ?nx, fun h7 => ?o1⟩, fun h59 => ?o2⟩
  case' nx =>
   rw [w64 (by omega) (by omega)]
   have hlt : j < s := by
    rcases s2 with s2 | s2 | s2
    ·omega
    ·omega
    ·rw [rd_dropN] at s2
     by_cases he : j = s
     ·subst he; exact absurd s2 h59
     ·omega
   exact ih (t.length - (p + (j + 1))) (by omega) (j + 1) rfl (by omega)
 all_goals
  have hjs : j = s := by
   by_cases he : j = s
   ·exact he
   ·first
    | omega
    | (have := s1 j (by omega); rw [rd_dropN] at this; exact absurd h59 this)
    | (have := of_decide_eq_false hl; omega)
  clear ih
  subst hjs
  refine ⟨_, _, _, hpj, ?_⟩
  simp only [bne_t, bne_f, beq_t, beq_f]
  refine ⟨fun a => ?_, fun a => ⟨fun b => ?_, fun b => ?_⟩⟩
  ·rw [if_neg (fun h => a h.1), if_neg a] at hR
   exact hR _ (Wk.refl _)
  ·have h0 : j = 0 := by omega
   rw [if_neg (fun h => h.2 h0), if_pos a] at hR
   rw [h0, List.take_zero, show enc [] = [] from rfl, hexV_nil] at hR
   rw [h0]
   exact hR _ (Wk.refl _)
  ·have h0 : j ≠ 0 := by omega
   have hpt : p + j ≤ t.length := by omega
   rw [if_pos ⟨a, h0⟩, if_pos a] at hR
   rw [ints_len, Int.toNat_natCast, Int.toNat_natCast, ints_take, ints_drop]
   have e1 : (t.take (p + j)).drop p = (t.drop p).take j := by rw [List.drop_take]; congr 1; omega
   rw [e1]
   have hN := uNamed_ok (120 :: enc ((t.drop p).take j)) (by
    intro x hx
    rcases List.mem_cons.1 hx with rfl | hx
    ·omega
    ·exact hbx x hx) (by rw [List.length_cons]; omega)
   rw [namedV_x hbx (hne h0 hpt), ← x_of] at hN
   have sc := hexV_scal (enc ((t.drop p).take j))
   refine ⟨⟨by omega, by omega, by omega⟩, _, _, uEncode_ok _ hscal (by simp; omega), _, enc_map _, ?_, _, _, hN, ?_⟩
   ·rw [size_of, show (ByteArray.mk #[120]).size = 1 from rfl]; omega
   ·simp only [not_t, not_f, dec_t, dec_f]
    rw [w64 (by omega) (by omega)]
    refine ⟨fun hv => ?_, fun hv => ?_⟩
    ·have : hexV (enc ((t.drop p).take j)) = -1 := by
      rcases sc with sc | sc
      ·exact sc
      ·have := (scal_in sc).1; omega
     rw [this] at hR
     exact hR _ (Wk.refl _)
    ·rw [if_pos hv]
     exact hR _ (Wk.refl _)
theorem sHex_ok (t : List Int) (hs : Scals t) (hlen : t.length ≤ 100000000) (p : Nat) (hp : p ≤ t.length) : Fn Tryz.prog 184 [scP] (scM t p) (fzI .i64 (hxV (t.drop p))) (scM t (p + hxQ (t.drop p))) := by
 refine token_scanner_hexO_fn _ _ ?_
 obtain ⟨R, hR, hRe⟩ := exW (fzI .i64 (hxV (t.drop p))) (scM t (p + hxQ (t.drop p))); rw [hRe]; clear hRe
 unfold token_scanner_hexO_H
 exact sHex_loop t hs hlen p hp R hR _ 0 rfl (Nat.zero_le _)
def esQ (r : List Int) : Nat := if pkL r 0 = 120 then 1 + hxQ (r.drop 1) else 1
theorem escV_hex {r : List Int} (h : pkL r 0 = 120) : (escV r).1 = hxV (r.drop 1) ∧ (0 ≤ hxV (r.drop 1) → (escV r).2 = 1 + hxQ (r.drop 1)) := by
 unfold escV hxV hxQ
 simp only [h]
 rw [if_neg (by omega), if_neg (by omega), if_neg (by omega), if_neg (by omega), if_neg (by omega), if_pos trivial]
 by_cases h59 : pkL (r.drop 1) (semN 7 (r.drop 1)) = 59
 ·rw [if_pos h59, if_pos h59]
  refine ⟨rfl, fun h0 => ?_⟩
  by_cases hz : semN 7 (r.drop 1) = 0
  ·rw [hz, List.take_zero, show enc [] = [] from rfl, hexV_nil] at h0; omega
  ·rw [if_pos ⟨h59, hz⟩]; simp only; omega
 ·rw [if_neg h59, if_neg h59]
  exact ⟨rfl, fun h0 => by omega⟩
theorem sEscape_ok (t : List Int) (hs : Scals t) (hlen : t.length ≤ 100000000) (p : Nat) (hp : p ≤ t.length) :
  Fn Tryz.prog 158 [scP] (scM t p) (fzI .i64 (escV (t.drop p)).1) (scM t (p + esQ (t.drop p))) := by
 refine token_scanner_escapeO_fn _ _ ?_
 obtain ⟨R, hR, hRe⟩ := exW (fzI .i64 (escV (t.drop p)).1) (scM t (p + esQ (t.drop p))); rw [hRe]; clear hRe
 unfold token_scanner_escapeO_H
 have hpj := sPeek_ok t p 0 (by omega) (by omega)
 have hk : pkL (t.drop p) 0 = pkL t (p + 0) := pkL_drop _ _ _
 refine ⟨_, _, _, hpj, ?_⟩
 rw [← hk, w64 (by omega) (by omega)]
 simp only [beq_t, beq_f]
 have one : pkL (t.drop p) 0 ≠ 120 → ∀ v, (escV (t.drop p)).1 = v → R (fzI .i64 v) (scM t (p + 1)) := fun hx v hv => by
  unfold esQ at hR
  rw [if_neg hx, hv] at hR
  exact hR _ (Wk.refl _)
 refine ⟨fun c => one (by omega) _ ?_, fun c1 => ⟨fun c => one (by omega) _ ?_, fun c2 => ⟨fun c => one (by omega) _ ?_, fun c3 => ⟨fun c => one (by omega) _ ?_, fun c4 => ⟨fun c => one (by omega) _ ?_, fun c5 => ⟨fun c => ?_, fun c6 => one c6 _ ?_⟩⟩⟩⟩⟩⟩
 ·unfold escV; simp only [c]; rfl
 ·unfold escV; simp only [c]; rfl
 ·unfold escV; simp only [c]; rfl
 ·unfold escV; simp only [c]; rfl
 ·unfold escV; simp only [c]; rfl
 ·have hpt : p + 1 ≤ t.length := by
   rw [hk] at c
   unfold pkL at c
   split at c <;> omega
  obtain ⟨e1, e2⟩ := escV_hex c
  have hx := sHex_ok t hs hlen (p + 1) hpt
  rw [List.drop_drop] at e1 e2
  unfold esQ at hR
  rw [if_pos c, List.drop_drop, e1, show p + (1 + hxQ (t.drop (p + 1))) = p + 1 + hxQ (t.drop (p + 1)) by omega] at hR
  exact ⟨_, _, _, hx, hR _ (Wk.refl _)⟩
 ·unfold escV
  simp only
  rw [if_neg c1, if_neg c3, if_neg c2, if_neg c4, if_neg c5, if_neg c6]
theorem escV_pos {r : List Int} (h : 0 ≤ (escV r).1) : esQ r = (escV r).2 ∧ scalB (escV r).1 = true ∧ (escV r).2 ≤ r.length := by
 by_cases c : pkL r 0 = 120
 ·obtain ⟨e1, e2⟩ := escV_hex c
  rw [e1] at h ⊢
  refine ⟨by unfold esQ; rw [if_pos c, e2 h], ?_, ?_⟩
  ·unfold hxV at h ⊢
   split at h
   ·rename_i h59
    rw [if_pos h59]
    rcases hexV_scal (enc ((r.drop 1).take (semN 7 (r.drop 1)))) with sc | sc
    ·omega
    ·exact sc
   ·omega
  ·rw [e2 h]
   have l2 := (semN_le 7 (r.drop 1)).2
   have l3 : (r.drop 1).length = r.length - 1 := List.length_drop
   have hr : 1 ≤ r.length := by
    unfold pkL at c
    split at c <;> omega
   unfold hxQ
   split
   ·rename_i h59
    have := h59.1
    unfold pkL at this
    split at this <;> omega
   ·omega
 ·have hn : r.length ≠ 0 := fun e => by
   unfold escV at h
   rw [pkL_ge (by omega)] at h
   simp at h
  unfold esQ
  rw [if_neg c]
  unfold escV at h ⊢
  simp only at h ⊢
  revert h
  repeat' split
  all_goals first
   | (intro _; refine ⟨rfl, by decide, ?_⟩; simp only; omega)
   | (intro h; exact absurd h (by decide))
   | (rename_i h1 _; exact absurd h1 c)
   | (rename_i h1; exact absurd h1 c)
   | (intro _; exact absurd (by assumption) c)
def stV (p : Option (List Int × Nat)) : List Int := match p with | some (a, _) => a | none => []
abbrev stT (p : Option (List Int × Nat)) : TV := match p with
 | some (a, _) => .tup [(false, [.fz (.str (bytesOf (enc a)))]), (false, [.fz (.bool (decide (a.length ≤ 4096)))])]
 | none => .tup [(false, [.fz (.str (bytesOf []))]), (false, [.fz (.bool false)])]
def strP : Nat → List Int → Nat → Nat
 | 0, _, k => k
 | _ + 1, [], k => k
 | f + 1, c :: r, k => if c = 34 then k + 1 else if c ≠ 92 then strP f r (k + 1) else if (escV r).1 < 0 then k + 1 + esQ r else strP f (r.drop (escV r).2) (k + 1 + (escV r).2)
theorem strP_some : ∀ (f : Nat) (r acc : List Int) (k : Nat) (a : List Int) (e : Nat), strF f r acc k = some (a, e) → strP f r k = e
 | 0, r, acc, k, a, e, h => by unfold strF at h; cases h
 | f + 1, [], acc, k, a, e, h => by unfold strF at h; cases h
 | f + 1, c :: r, acc, k, a, e, h => by
  unfold strF at h
  unfold strP
  split
  ·rename_i hc
   rw [if_pos hc] at h; cases h; rfl
  ·rename_i hc
   rw [if_neg hc] at h
   split
   ·rename_i hc2
    rw [if_pos hc2] at h
    exact strP_some f r _ _ a e h
   ·rename_i hc2
    rw [if_neg hc2] at h
    split
    ·rename_i hc3
     rw [if_pos hc3] at h; cases h
    ·rename_i hc3
     rw [if_neg hc3] at h
     exact strP_some f _ _ _ a e h
theorem sStr_loop (t : List Int) (hs : Scals t) (hlen : t.length ≤ 100000000) (R : TV → List Ob → Prop) : ∀ (f q : Nat) (acc : List Int), t.length - q < f → q ≤ t.length → acc.length ≤ q → Scals acc →
  (∀ h', Wk h' (scM t (strP f (t.drop q) q)) → R (stT (strF f (t.drop q) acc q)) h') → token_scanner_strO_L0 R (ints .i64 t) q (ints .i64 acc) := by
 intro f
 induction f with
 | zero => intro q acc hf; omega
 | succ f ih =>
  intro q acc hf hle hacc hsa hR
  have hl := sLeft_ok t q 1 (by omega) (by omega)
  have hp := sPeek_ok t q 0 (by omega) (by omega)
  refine token_scanner_strO_l0 ?_
  unfold token_scanner_strO_R0
  refine ⟨_, _, _, hl, fun h1 => ?_, fun h1 => ?_⟩
  ·have hlt : q < t.length := of_decide_eq_true h1
   rw [Nat.add_zero, pkL_lt hlt] at hp
   rw [drop_rd' t q hlt] at hR
   unfold strF strP at hR
   have e : IntKind.wrap .i64 ((q : Int) + 1) = ((q + 1 : Nat) : Int) := w64 (by omega) (by omega)
   refine ⟨_, _, _, hp, ?_⟩
   simp only [beq_t, beq_f, dec_t, dec_f, e, ints_len]
   refine ⟨fun c34 => ?_, fun c34 => ⟨fun c92 => ?_, fun c92 => ?_⟩⟩
   ·rw [if_pos c34, if_pos c34] at hR
    refine ⟨_, _, uEncode_ok acc hsa (by omega), _, enc_map _, ?_⟩
    have hx := hR _ (Wk.refl _)
    unfold stT at hx
    simp only at hx
    have e2 : decide ((acc.length : Int) ≤ 4096) = decide (acc.length ≤ 4096) := by rw [decide_eq_decide]; omega
    rw [e2]
    exact hx
   ·have n92 : ¬ (rd t q ≠ 92) := fun h => h c92
    rw [if_neg c34, if_neg c34, if_neg n92, if_neg n92] at hR
    have hE := sEscape_ok t hs hlen (q + 1) (by omega)
    refine ⟨_, _, _, hE, fun hv => ?_, fun hv => ?_⟩
    ·rw [if_pos hv, if_pos hv] at hR
     exact hR _ (Wk.refl _)
    ·rw [if_neg hv, if_neg hv] at hR
     obtain ⟨g1, g2, g3⟩ := escV_pos (r := t.drop (q + 1)) (by omega)
     rw [List.length_drop] at g3
     rw [g1, ints_snoc]
     rw [List.drop_drop] at hR
     exact ⟨by simp only [List.length_cons, List.length_nil]; omega, ih (q + 1 + (escV (t.drop (q + 1))).2) (acc ++ [(escV (t.drop (q + 1))).1]) (by omega) (by omega) (by simp; omega) (by
      intro c hc
      rcases List.mem_append.1 hc with hc | hc
      ·exact hsa c hc
      ·simp at hc; rw [hc]; exact g2) hR⟩
   ·rw [if_neg c34, if_neg c34, if_pos c92, if_pos c92] at hR
    rw [ints_snoc]
    exact ⟨by simp only [List.length_cons, List.length_nil]; omega, ih (q + 1) (acc ++ [rd t q]) (by omega) (by omega) (by simp; omega) (by
      intro c hc
      rcases List.mem_append.1 hc with hc | hc
      ·exact hsa c hc
      ·simp at hc; rw [hc]; exact hs.rd hlt) hR⟩
  ·have hge : t.length ≤ q := by have := of_decide_eq_false h1; omega
   rw [List.drop_eq_nil_of_le hge] at hR
   exact hR _ (Wk.refl _)
theorem sStr_ok (t : List Int) (hs : Scals t) (hlen : t.length ≤ 100000000) (p : Nat) (hp : p ≤ t.length) :
  Fn Tryz.prog 132 [scP] (scM t p) (stT (strF (t.length + 1) (t.drop p) [] p)) (scM t (strP (t.length + 1) (t.drop p) p)) := by
 refine token_scanner_strO_fn _ _ ?_
 obtain ⟨R, hR, hRe⟩ := exW (stT (strF (t.length + 1) (t.drop p) [] p)) (scM t (strP (t.length + 1) (t.drop p) p)); rw [hRe]; clear hRe
 unfold token_scanner_strO_H
 exact sStr_loop t hs hlen R (t.length + 1) p [] (by omega) hp (by simp) (by intro c hc; cases hc) hR
theorem ch1_scal {l : List Int} (hl : Bytes l) (hne : l ≠ []) (h : (ch1 l).2 ≠ 0) : scalB (ch1 l).1 = true := by
 have b0 := rd_byte hl 0
 revert h
 unfold ch1 chN scalB
 repeat' split
 all_goals first | (intro h; exact absurd rfl h) | (intro _; simp; omega)
theorem namedV_scal {T : List Int} (hT : Bytes T) : namedV T < 0 ∨ scalB (namedV T) = true := by
 unfold namedV
 by_cases h0 : T = [115, 112, 97, 99, 101]
 ·rw [if_pos h0]; exact .inr (by decide)
 rw [if_neg h0]
 by_cases h1 : T = [110, 101, 119, 108, 105, 110, 101]
 ·rw [if_pos h1]; exact .inr (by decide)
 rw [if_neg h1]
 by_cases h2 : T = [116, 97, 98]
 ·rw [if_pos h2]; exact .inr (by decide)
 rw [if_neg h2]
 by_cases h3 : T = [114, 101, 116, 117, 114, 110]
 ·rw [if_pos h3]; exact .inr (by decide)
 rw [if_neg h3]
 by_cases h4 : T = [110, 117, 108, 108]
 ·rw [if_pos h4]; exact .inr (by decide)
 rw [if_neg h4]
 by_cases h5 : T = [100, 101, 108, 101, 116, 101]
 ·rw [if_pos h5]; exact .inr (by decide)
 rw [if_neg h5]
 split
 ·rename_i h
  have h1 := (chars_one hT).1 h
  obtain ⟨q1, q2⟩ := namedV_one hT h1
  rw [q1]
  unfold oneB at h1
  rw [decide_eq_true_eq] at h1
  right
  exact ch1_scal hT h1.1 (by rw [h1.2]; have : T.length ≠ 0 := fun e => h1.1 (List.length_eq_zero_iff.1 e); omega)
 ·split
  ·rcases hexV_scal (T.drop 1) with h | h
   ·left; omega
   ·exact .inr h
  ·left; omega
def chN_ (r : List Int) : Nat := 1 + untilN (r.drop 1)
def chB (r : List Int) : List Int := enc (r.take (chN_ r))
def chV (r : List Int) : Int := if r = [] then -1 else namedV (chB r)
def chQ (r : List Int) : Nat := if r = [] then 0 else chN_ r
def chX (r : List Int) : List Int := if r = [] then [] else utfB (if 0 ≤ chV r then chV r else 0)
theorem sChar_ok (t : List Int) (hs : Scals t) (hlen : t.length ≤ 4000000) (p : Nat) (hp : p ≤ t.length) :
  Fn Tryz.prog 133 [scP] (scM t p) (.tup [(false, [.fz (.str (bytesOf (chX (t.drop p))))]), (false, [.fz (.bool (decide (0 ≤ chV (t.drop p))))])]) (scM t (p + chQ (t.drop p))) := by
 refine token_scanner_charO_fn _ _ ?_
 obtain ⟨R, hR, hRe⟩ := exW (.tup [(false, [.fz (.str (bytesOf (chX (t.drop p))))]), (false, [.fz (.bool (decide (0 ≤ chV (t.drop p))))])]) (scM t (p + chQ (t.drop p))); rw [hRe]; clear hRe
 unfold token_scanner_charO_H
 refine ⟨_, _, _, sLeft_ok t p 1 (by omega) (by omega), ?_⟩
 simp only [not_t, not_f, decide_eq_true_eq, decide_eq_false_iff_not]
 refine ⟨fun h => ?_, fun h => ?_⟩
 ·have hd : t.drop p = [] := List.drop_eq_nil_of_le (by omega)
  rw [hd] at hR
  exact hR _ (Wk.refl _)
 ·have hd : t.drop p ≠ [] := fun e => by have := congrArg List.length e; simp at this; omega
  have hW := sWhile_ok t hs (by omega) p 1 h
  have e1 : 1 + untilN (t.drop (p + 1)) = chN_ (t.drop p) := by unfold chN_; rw [List.drop_drop]
  have hun := untilN_le (t.drop (p + 1))
  rw [List.length_drop] at hun
  have hbB : Bytes (chB (t.drop p)) := enc_bytes ((hs.drop p).take _)
  have hbl : (chB (t.drop p)).length ≤ 16777216 := by
   have := enc_len ((t.drop p).take (chN_ (t.drop p)))
   unfold chB
   simp only [List.length_take, List.length_drop] at this
   omega
  rw [e1, show p + 1 + untilN (t.drop (p + 1)) = p + chN_ (t.drop p) by omega] at hW
  have hN := uNamed_ok (chB (t.drop p)) hbB hbl
  have hsc := namedV_scal hbB
  unfold chX chV chQ at hR
  rw [if_neg hd, if_neg hd, if_neg hd] at hR
  refine ⟨_, _, _, hW, _, _, hN, ?_⟩
  generalize namedV (chB (t.drop p)) = v at *
  have hE := uEncode_ok [if 0 ≤ v then v else 0] (by
   intro c hc
   simp at hc
   rw [hc]
   split
   ·rcases hsc with hsc | hsc
    ·omega
    ·exact hsc
   ·decide) (by simp)
  refine ⟨_, _, hE, _, enc_map _, ?_⟩
  rw [show enc [if 0 ≤ v then v else 0] = utfB (if 0 ≤ v then v else 0) by simp [enc]]
  exact hR _ (Wk.refl _)
end
section
def token_scanner_nextO_lv : List Nat → Keep := lvOf [([0, 1, 0, 1, 1], ⟨12301, 0, [], false, false⟩)]
def token_scanner_nextO_S0 (p : Int) (i : Int) (o : LL) (o1 : Int) : St := (St.mk [(TV.one (AV.ptr 0 0 0 110)), TV.und, (TV.one (AV.ptr 1 0 0 0)), (TV.one (AV.fz (FV.int .i64 p))), TV.und, TV.und, TV.und, TV.und, TV.und, TV.und, TV.und, TV.und, (TV.agg [(AV.fz (FV.str (ByteArray.mk #[35, 44, 64]))), (AV.fz (FV.int .i64 6)), (AV.fz (FV.str (ByteArray.mk #[117, 110, 115, 121, 110, 116, 97, 120, 45, 115, 112, 108, 105, 99, 105, 110, 103]))), (AV.fz (FV.str (ByteArray.mk #[35, 40]))), (AV.fz (FV.int .i64 3)), (AV.fz (FV.str (ByteArray.mk #[]))), (AV.fz (FV.str (ByteArray.mk #[35, 59]))), (AV.fz (FV.int .i64 5)), (AV.fz (FV.str (ByteArray.mk #[]))), (AV.fz (FV.str (ByteArray.mk #[35, 39]))), (AV.fz (FV.int .i64 6)), (AV.fz (FV.str (ByteArray.mk #[115, 121, 110, 116, 97, 120]))), (AV.fz (FV.str (ByteArray.mk #[35, 96]))), (AV.fz (FV.int .i64 6)), (AV.fz (FV.str (ByteArray.mk #[113, 117, 97, 115, 105, 115, 121, 110, 116, 97, 120]))), (AV.fz (FV.str (ByteArray.mk #[35, 44]))), (AV.fz (FV.int .i64 6)), (AV.fz (FV.str (ByteArray.mk #[117, 110, 115, 121, 110, 116, 97, 120]))), (AV.fz (FV.str (ByteArray.mk #[44, 64]))), (AV.fz (FV.int .i64 6)), (AV.fz (FV.str (ByteArray.mk #[117, 110, 113, 117, 111, 116, 101, 45, 115, 112, 108, 105, 99, 105, 110, 103]))), (AV.fz (FV.str (ByteArray.mk #[40]))), (AV.fz (FV.int .i64 1)), (AV.fz (FV.str (ByteArray.mk #[]))), (AV.fz (FV.str (ByteArray.mk #[41]))), (AV.fz (FV.int .i64 2)), (AV.fz (FV.str (ByteArray.mk #[]))), (AV.fz (FV.str (ByteArray.mk #[39]))), (AV.fz (FV.int .i64 6)), (AV.fz (FV.str (ByteArray.mk #[113, 117, 111, 116, 101]))), (AV.fz (FV.str (ByteArray.mk #[96]))), (AV.fz (FV.int .i64 6)), (AV.fz (FV.str (ByteArray.mk #[113, 117, 97, 115, 105, 113, 117, 111, 116, 101]))), (AV.fz (FV.str (ByteArray.mk #[44]))), (AV.fz (FV.int .i64 6)), (AV.fz (FV.str (ByteArray.mk #[117, 110, 113, 117, 111, 116, 101])))]), (TV.one (AV.fz (FV.int .i64 i))), TV.und, TV.und, TV.und, TV.und, TV.und, TV.und, TV.und, TV.und, TV.und, TV.und, TV.und, TV.und, TV.und, TV.und, TV.und, TV.und, TV.und, TV.und, TV.und, TV.und, TV.und, TV.und, TV.und, TV.und, TV.und, TV.und, TV.und, TV.und, TV.und, TV.und, TV.und, TV.und, TV.und, TV.und, TV.und, TV.und, TV.und, TV.und, TV.und, TV.und, TV.und, TV.und, TV.und, TV.und, TV.und, TV.und, TV.und, TV.und, TV.und, TV.und, TV.und, TV.und, TV.und, TV.und, TV.und, TV.und, TV.und, TV.und, TV.und, TV.und] [(Ob.g 110 [(AV.fz (FV.sl 1 o)), (AV.fz (FV.int .i64 o1))]), (Ob.g 112 [(AV.fz (FV.int .i64 0)), (AV.fz (FV.str (ByteArray.mk #[]))), (AV.fz (FV.int .i64 0)), (AV.fz (FV.str (ByteArray.mk #[]))), (AV.fz (FV.bool false)), (AV.ofl 1 2), (AV.ofl 6 3), (AV.fz (FV.int .i64 0)), (AV.fz (FV.int .i64 0))]), (Ob.f 0 1 ([] : LL)), (Ob.f 0 6 ([] : LL))])
def token_scanner_nextO_L0 (R : TV → List Ob → Prop) (RX : FV → List Ob → Prop) (p : Int) (i : Int) (o : LL) (o1 : Int) : Prop := LoopAt Tryz.prog (modeX [] [(67, [(Sig.mk 1 [(false, [(AT.k CK.bool)])] [(OT.g 110 [(AT.k (CK.sl 1)), (AT.k (CK.int .i64))])] 0)]), (101, [(Sig.mk 1 [(false, [(AT.k (CK.int .i64))])] [(OT.g 110 [(AT.k (CK.sl 1)), (AT.k (CK.int .i64))])] 0)]), (103, [(Sig.mk 1 [(false, [(AT.k CK.bool)])] [(OT.g 110 [(AT.k (CK.sl 1)), (AT.k (CK.int .i64))])] 0)]), (105, [(Sig.mk 1 [(true, [(AT.k (CK.int .i64)), (AT.k CK.str), (AT.k CK.bool), (AT.k (CK.sl 1)), (AT.k (CK.sl 6)), (AT.k (CK.int .i64))]), (false, [(AT.k CK.bool)])] [(OT.g 110 [(AT.k (CK.sl 1)), (AT.k (CK.int .i64))])] 0)])] [] 1 RX) token_scanner_nextO_lv Tryz.f68 (some 1) R [1, 1, 0, 1, 0] (token_scanner_nextO_S0 p i o o1)
def token_scanner_nextO_R0 (R : TV → List Ob → Prop) (RX : FV → List Ob → Prop) (p : Int) (i : Int) (o : List (List FV)) (o1 : Int) : Prop :=
 ((((decide (i < 12)) = true) → ((((0 : Int) ≤ i) ∧ (i < 12)) ∧ (∃ s8 : ByteArray, (∃ n26 : Int, (∃ s9 : ByteArray, ((cutT [(AV.fz (FV.str (ByteArray.mk #[35, 44, 64]))), (AV.fz (FV.int .i64 6)), (AV.fz (FV.str (ByteArray.mk #[117, 110, 115, 121, 110, 116, 97, 120, 45, 115, 112, 108, 105, 99, 105, 110, 103]))), (AV.fz (FV.str (ByteArray.mk #[35, 40]))), (AV.fz (FV.int .i64 3)), (AV.fz (FV.str (ByteArray.mk #[]))), (AV.fz (FV.str (ByteArray.mk #[35, 59]))), (AV.fz (FV.int .i64 5)), (AV.fz (FV.str (ByteArray.mk #[]))), (AV.fz (FV.str (ByteArray.mk #[35, 39]))), (AV.fz (FV.int .i64 6)), (AV.fz (FV.str (ByteArray.mk #[115, 121, 110, 116, 97, 120]))), (AV.fz (FV.str (ByteArray.mk #[35, 96]))), (AV.fz (FV.int .i64 6)), (AV.fz (FV.str (ByteArray.mk #[113, 117, 97, 115, 105, 115, 121, 110, 116, 97, 120]))), (AV.fz (FV.str (ByteArray.mk #[35, 44]))), (AV.fz (FV.int .i64 6)), (AV.fz (FV.str (ByteArray.mk #[117, 110, 115, 121, 110, 116, 97, 120]))), (AV.fz (FV.str (ByteArray.mk #[44, 64]))), (AV.fz (FV.int .i64 6)), (AV.fz (FV.str (ByteArray.mk #[117, 110, 113, 117, 111, 116, 101, 45, 115, 112, 108, 105, 99, 105, 110, 103]))), (AV.fz (FV.str (ByteArray.mk #[40]))), (AV.fz (FV.int .i64 1)), (AV.fz (FV.str (ByteArray.mk #[]))), (AV.fz (FV.str (ByteArray.mk #[41]))), (AV.fz (FV.int .i64 2)), (AV.fz (FV.str (ByteArray.mk #[]))), (AV.fz (FV.str (ByteArray.mk #[39]))), (AV.fz (FV.int .i64 6)), (AV.fz (FV.str (ByteArray.mk #[113, 117, 111, 116, 101]))), (AV.fz (FV.str (ByteArray.mk #[96]))), (AV.fz (FV.int .i64 6)), (AV.fz (FV.str (ByteArray.mk #[113, 117, 97, 115, 105, 113, 117, 111, 116, 101]))), (AV.fz (FV.str (ByteArray.mk #[44]))), (AV.fz (FV.int .i64 6)), (AV.fz (FV.str (ByteArray.mk #[117, 110, 113, 117, 111, 116, 101])))] ((Int.toNat i) * 3) 3 [(FV.str s8), (FV.int .i64 n26), (FV.str s9)]) ∧ (∃ es20 : LL, (∃ n27 : Int, (∃ b14 : Bool, ((Fn Tryz.prog 103 [(TV.one (AV.ptr 0 0 0 110)), (TV.one (AV.fz (FV.str s8)))] [(Ob.g 110 [(AV.fz (FV.sl 1 o)), (AV.fz (FV.int .i64 o1))])] (TV.one (AV.fz (FV.bool b14))) [(Ob.g 110 [(AV.fz (FV.sl 1 es20)), (AV.fz (FV.int .i64 n27))])]) ∧ (((b14 = true) → (R (TV.agg [(AV.fz (FV.int .i64 n26)), (AV.fz (FV.str s9)), (AV.fz (FV.int .i64 0)), (AV.fz (FV.str (ByteArray.mk #[]))), (AV.fz (FV.bool false)), (AV.ofl 1 1), (AV.ofl 6 2), (AV.fz (FV.int .i64 0)), (AV.fz (FV.int .i64 p))]) [(Ob.g 110 [(AV.fz (FV.sl 1 es20)), (AV.fz (FV.int .i64 (IntKind.wrap .i64 (n27 + (((ByteArray.size s8) : Nat) : Int)))))]), (Ob.f 0 1 ([] : LL)), (Ob.f 0 6 ([] : LL))])) ∧ ((b14 = false) → (token_scanner_nextO_L0 R RX p (IntKind.wrap .i64 (i + 1)) es20 n27))))))))))))) ∧ (((decide (i < 12)) = false) → (∃ es21 : LL, (∃ n28 : Int, (∃ n29 : Int, ((Fn Tryz.prog 101 [(TV.one (AV.ptr 0 0 0 110)), (TV.one (AV.fz (FV.int .i64 0)))] [(Ob.g 110 [(AV.fz (FV.sl 1 o)), (AV.fz (FV.int .i64 o1))])] (TV.one (AV.fz (FV.int .i64 n29))) [(Ob.g 110 [(AV.fz (FV.sl 1 es21)), (AV.fz (FV.int .i64 n28))])]) ∧ ((((n29 == 46) = true) → (∃ es22 : LL, (∃ n30 : Int, (∃ b15 : Bool, ((Fn Tryz.prog 67 [(TV.one (AV.ptr 0 0 0 110)), (TV.one (AV.fz (FV.int .i64 2)))] [(Ob.g 110 [(AV.fz (FV.sl 1 es21)), (AV.fz (FV.int .i64 n28))])] (TV.one (AV.fz (FV.bool b15))) [(Ob.g 110 [(AV.fz (FV.sl 1 es22)), (AV.fz (FV.int .i64 n30))])]) ∧ ((((Bool.not b15) = true) → (R (TV.agg [(AV.fz (FV.int .i64 4)), (AV.fz (FV.str (ByteArray.mk #[]))), (AV.fz (FV.int .i64 0)), (AV.fz (FV.str (ByteArray.mk #[]))), (AV.fz (FV.bool false)), (AV.ofl 1 1), (AV.ofl 6 2), (AV.fz (FV.int .i64 0)), (AV.fz (FV.int .i64 p))]) [(Ob.g 110 [(AV.fz (FV.sl 1 es22)), (AV.fz (FV.int .i64 (IntKind.wrap .i64 (n30 + 1))))]), (Ob.f 0 1 ([] : LL)), (Ob.f 0 6 ([] : LL))])) ∧ (((Bool.not b15) = false) → (∃ es23 : LL, (∃ n31 : Int, (∃ n32 : Int, ((Fn Tryz.prog 101 [(TV.one (AV.ptr 0 0 0 110)), (TV.one (AV.fz (FV.int .i64 1)))] [(Ob.g 110 [(AV.fz (FV.sl 1 es22)), (AV.fz (FV.int .i64 n30))])] (TV.one (AV.fz (FV.int .i64 n32))) [(Ob.g 110 [(AV.fz (FV.sl 1 es23)), (AV.fz (FV.int .i64 n31))])]) ∧ (∃ b16 : Bool, ((Fn Tryz.prog 104 [(TV.one (AV.fz (FV.int .i64 n32)))] [] (TV.one (AV.fz (FV.bool b16))) []) ∧ (((b16 = true) → (R (TV.agg [(AV.fz (FV.int .i64 4)), (AV.fz (FV.str (ByteArray.mk #[]))), (AV.fz (FV.int .i64 0)), (AV.fz (FV.str (ByteArray.mk #[]))), (AV.fz (FV.bool false)), (AV.ofl 1 1), (AV.ofl 6 2), (AV.fz (FV.int .i64 0)), (AV.fz (FV.int .i64 p))]) [(Ob.g 110 [(AV.fz (FV.sl 1 es23)), (AV.fz (FV.int .i64 (IntKind.wrap .i64 (n31 + 1))))]), (Ob.f 0 1 ([] : LL)), (Ob.f 0 6 ([] : LL))])) ∧ ((b16 = false) → (∃ es24 : LL, (∃ n33 : Int, (∃ n34 : Int, (∃ s10 : ByteArray, (∃ b17 : Bool, (∃ es25 : LL, (∃ es26 : LL, (∃ n35 : Int, (∃ b18 : Bool, ((Fn Tryz.prog 105 [(TV.one (AV.ptr 0 0 0 110))] [(Ob.g 110 [(AV.fz (FV.sl 1 es23)), (AV.fz (FV.int .i64 n31))])] (TV.tup [(true, [(AV.fz (FV.int .i64 n34)), (AV.fz (FV.str s10)), (AV.fz (FV.bool b17)), (AV.fz (FV.sl 1 es25)), (AV.fz (FV.sl 6 es26)), (AV.fz (FV.int .i64 n35))]), (false, [(AV.fz (FV.bool b18))])]) [(Ob.g 110 [(AV.fz (FV.sl 1 es24)), (AV.fz (FV.int .i64 n33))])]) ∧ ((((Bool.not b18) = true) → (RX (FV.ifv 106 true [(FV.int .i64 p)]) [(Ob.g 110 [AV.und, AV.und])])) ∧ (((Bool.not b18) = false) → (R (TV.agg [(AV.fz (FV.int .i64 7)), (AV.fz (FV.str (ByteArray.mk #[]))), (AV.fz (FV.int .i64 n34)), (AV.fz (FV.str s10)), (AV.fz (FV.bool b17)), (AV.fz (FV.sl 1 es25)), (AV.fz (FV.sl 6 es26)), (AV.fz (FV.int .i64 p)), (AV.fz (FV.int .i64 p))]) [(Ob.g 110 [(AV.fz (FV.sl 1 es24)), (AV.fz (FV.int .i64 n33))])])))))))))))))))))))))))))))) ∧ (((n29 == 46) = false) → (∃ es27 : LL, (∃ n36 : Int, (∃ n37 : Int, (∃ s11 : ByteArray, (∃ b19 : Bool, (∃ es28 : LL, (∃ es29 : LL, (∃ n38 : Int, (∃ b20 : Bool, ((Fn Tryz.prog 105 [(TV.one (AV.ptr 0 0 0 110))] [(Ob.g 110 [(AV.fz (FV.sl 1 es21)), (AV.fz (FV.int .i64 n28))])] (TV.tup [(true, [(AV.fz (FV.int .i64 n37)), (AV.fz (FV.str s11)), (AV.fz (FV.bool b19)), (AV.fz (FV.sl 1 es28)), (AV.fz (FV.sl 6 es29)), (AV.fz (FV.int .i64 n38))]), (false, [(AV.fz (FV.bool b20))])]) [(Ob.g 110 [(AV.fz (FV.sl 1 es27)), (AV.fz (FV.int .i64 n36))])]) ∧ ((((Bool.not b20) = true) → (RX (FV.ifv 106 true [(FV.int .i64 p)]) [(Ob.g 110 [AV.und, AV.und])])) ∧ (((Bool.not b20) = false) → (R (TV.agg [(AV.fz (FV.int .i64 7)), (AV.fz (FV.str (ByteArray.mk #[]))), (AV.fz (FV.int .i64 n37)), (AV.fz (FV.str s11)), (AV.fz (FV.bool b19)), (AV.fz (FV.sl 1 es28)), (AV.fz (FV.sl 6 es29)), (AV.fz (FV.int .i64 p)), (AV.fz (FV.int .i64 p))]) [(Ob.g 110 [(AV.fz (FV.sl 1 es27)), (AV.fz (FV.int .i64 n36))])])))))))))))))))))))))
theorem token_scanner_nextO_l0 {R : TV → List Ob → Prop} {RX : FV → List Ob → Prop} {p : Int} {i : Int} {o : LL} {o1 : Int} (h : token_scanner_nextO_R0 R RX p i o o1) : token_scanner_nextO_L0 R RX p i o o1 :=
 LoopAt.by_tr (by kernel_rfl) (by kernel_rfl) h
def token_scanner_nextO_H (R : TV → List Ob → Prop) (RX : FV → List Ob → Prop) (tx : List (List FV)) (p : Int) : Prop :=
 (token_scanner_nextO_L0 R RX p 0 tx p)
theorem token_scanner_nextO_fc (tx : LL) (p : Int) {r : TV} {h : List Ob} (H : token_scanner_nextO_H (fun r' h' => Cool 1 r' h' r h) (fun _ _ => False) tx p) : Fn Tryz.prog 68 [(TV.one (AV.ptr 0 0 0 110))] [(Ob.g 110 [(AV.fz (FV.sl 1 tx)), (AV.fz (FV.int .i64 p))])] r h :=
 Fn.by_trC (M := (modeX [] [(67, [(Sig.mk 1 [(false, [(AT.k CK.bool)])] [(OT.g 110 [(AT.k (CK.sl 1)), (AT.k (CK.int .i64))])] 0)]), (101, [(Sig.mk 1 [(false, [(AT.k (CK.int .i64))])] [(OT.g 110 [(AT.k (CK.sl 1)), (AT.k (CK.int .i64))])] 0)]), (103, [(Sig.mk 1 [(false, [(AT.k CK.bool)])] [(OT.g 110 [(AT.k (CK.sl 1)), (AT.k (CK.int .i64))])] 0)]), (105, [(Sig.mk 1 [(true, [(AT.k (CK.int .i64)), (AT.k CK.str), (AT.k CK.bool), (AT.k (CK.sl 1)), (AT.k (CK.sl 6)), (AT.k (CK.int .i64))]), (false, [(AT.k CK.bool)])] [(OT.g 110 [(AT.k (CK.sl 1)), (AT.k (CK.int .i64))])] 0)])] [] 1 (fun _ _ => False))) (lv := token_scanner_nextO_lv) (own := (some 1)) (F := Tryz.f68) (by kernel_rfl) (by kernel_rfl) (by first | decide | simp) (fun _ _ h => h) (by kernel_rfl) H
theorem token_scanner_nextO_fx (tx : LL) (p : Int) {x : FV} (H : token_scanner_nextO_H (fun _ _ => False) (fun x' h' => x' = x ∧ h' = shH [(Ob.g 110 [(AV.fz (FV.sl 1 tx)), (AV.fz (FV.int .i64 p))])]) tx p) : FnX Tryz.prog 68 [(TV.one (AV.ptr 0 0 0 110))] [(Ob.g 110 [(AV.fz (FV.sl 1 tx)), (AV.fz (FV.int .i64 p))])] x :=
 FnX.by_tr (M := (modeX [] [(67, [(Sig.mk 1 [(false, [(AT.k CK.bool)])] [(OT.g 110 [(AT.k (CK.sl 1)), (AT.k (CK.int .i64))])] 0)]), (101, [(Sig.mk 1 [(false, [(AT.k (CK.int .i64))])] [(OT.g 110 [(AT.k (CK.sl 1)), (AT.k (CK.int .i64))])] 0)]), (103, [(Sig.mk 1 [(false, [(AT.k CK.bool)])] [(OT.g 110 [(AT.k (CK.sl 1)), (AT.k (CK.int .i64))])] 0)]), (105, [(Sig.mk 1 [(true, [(AT.k (CK.int .i64)), (AT.k CK.str), (AT.k CK.bool), (AT.k (CK.sl 1)), (AT.k (CK.sl 6)), (AT.k (CK.int .i64))]), (false, [(AT.k CK.bool)])] [(OT.g 110 [(AT.k (CK.sl 1)), (AT.k (CK.int .i64))])] 0)])] [] 1 (fun x' h' => x' = x ∧ h' = shH [(Ob.g 110 [(AV.fz (FV.sl 1 tx)), (AV.fz (FV.int .i64 p))])]))) (lv := token_scanner_nextO_lv) (own := (some 1)) (F := Tryz.f68) (by kernel_rfl) (by kernel_rfl) (by first | decide | simp) (fun _ _ h => h) (by kernel_rfl) H
end
section
def scanD0_lv : List Nat → Keep := lvOf []
def scanD0_H (R : TV → List Ob → Prop) (a : Int) (e : Int) (l : List (List FV)) : Prop :=
 ((((Bool.not (Bool.not false)) = true) → False) ∧ (((Bool.not (Bool.not false)) = false) → (R (TV.tup []) [(Ob.g 62 [(AV.ofl 9 3)]), (Ob.g 3 [(AV.fz (FV.int .i64 a))]), (Ob.g 24 [(AV.fz (FV.int .i64 e))]), (Ob.f 0 9 l)])))
theorem scanD0_fn (a : Int) (e : Int) (l : LL) {h : List Ob} (H : scanD0_H (fun _ h' => Wk h' h) a e l) : FnDf Tryz.prog 65 [(TV.one (AV.ptr 0 0 0 62)), (TV.one (AV.ptr 1 0 0 3)), (TV.one (AV.ptr 2 0 0 24))] [(Ob.g 62 [(AV.ofl 9 3)]), (Ob.g 3 [(AV.fz (FV.int .i64 a))]), (Ob.g 24 [(AV.fz (FV.int .i64 e))]), (Ob.f 0 9 l)] none h :=
 FnDf.by_trR (M := (modeOf [] [])) (lv := scanD0_lv) (own := (some 4)) (F := Tryz.f65) (by kernel_rfl) (by kernel_rfl) (by first | decide | simp) (fun _ _ h => h) (by kernel_rfl) H
def scanDx_lv : List Nat → Keep := lvOf []
def scanDx_H (R : TV → List Ob → Prop) (q : Int) : Prop :=
 ((((Bool.not false) = true) → (R (TV.tup []) [(Ob.g 62 [(AV.nsl 9)]), (Ob.g 3 [(AV.fz (FV.int .i64 q))]), (Ob.g 24 [(AV.fz (FV.int .i64 3))])])) ∧ (((Bool.not false) = false) → (R (TV.tup []) [(Ob.g 62 [AV.und]), (Ob.g 3 [AV.und]), (Ob.g 24 [AV.und])])))
theorem scanDx_fn (q : Int) {h : List Ob} (H : scanDx_H (fun _ h' => Wk h' h) q) : FnDf Tryz.prog 65 [(TV.one (AV.ptr 0 0 0 62)), (TV.one (AV.ptr 1 0 0 3)), (TV.one (AV.ptr 2 0 0 24))] [(Ob.g 62 [AV.und]), (Ob.g 3 [AV.und]), (Ob.g 24 [AV.und])] (some (FV.ifv 106 true [(FV.int .i64 q)])) h :=
 FnDf.by_trR (M := (modeOf [] [])) (lv := scanDx_lv) (own := (some 3)) (F := Tryz.f65) (by kernel_rfl) (by kernel_rfl) (by first | decide | simp) (fun _ _ h => h) (by kernel_rfl) H
def token_Scan_lv : List Nat → Keep := lvOf [([0, 1, 0, 1, 1, 1, 1], ⟨92, 0, [], false, false⟩)]
def token_Scan_S0 (es : LL) (n1 : Int) (o : LL) : St := (St.mk [TV.und, TV.und, (TV.one (AV.ptr 0 0 0 0)), (TV.one (AV.ptr 1 0 0 0)), (TV.one (AV.ptr 2 0 0 0)), TV.und, (TV.one (AV.ptr 3 0 0 0)), TV.und, TV.und, TV.und, TV.und, TV.und, TV.und, TV.und, TV.und, TV.und, TV.und, TV.und, TV.und, TV.und, TV.und, TV.und, TV.und, TV.und, TV.und, TV.und, TV.und, TV.und] [(Ob.g 62 [(AV.ofl 9 4)]), (Ob.g 3 [(AV.fz (FV.int .i64 0))]), (Ob.g 24 [(AV.fz (FV.int .i64 0))]), (Ob.g 110 [(AV.fz (FV.sl 1 es)), (AV.fz (FV.int .i64 n1))]), (Ob.f 0 9 o)])
def token_Scan_L0 (R : TV → List Ob → Prop) (RX : FV → List Ob → Prop) (es : LL) (n1 : Int) (o : LL) : Prop := LoopAtD Tryz.prog (modeX [] [(67, [(Sig.mk 1 [(false, [(AT.k CK.bool)])] [(OT.g 110 [(AT.k (CK.sl 1)), (AT.k (CK.int .i64))])] 0)]), (66, [(Sig.mk 1 [] [(OT.g 110 [(AT.k (CK.sl 1)), (AT.k (CK.int .i64))])] 0)]), (68, [(Sig.mk 1 [(true, [(AT.k (CK.int .i64)), (AT.k CK.str), (AT.k (CK.int .i64)), (AT.k CK.str), (AT.k CK.bool), (AT.k (CK.sl 1)), (AT.k (CK.sl 6)), (AT.k (CK.int .i64)), (AT.k (CK.int .i64))])] [(OT.g 110 [(AT.k (CK.sl 1)), (AT.k (CK.int .i64))])] 0)]), (65, [(Sig.mk 3 [] [(OT.g 62 [(AT.a (AV.nsl 9))]), (OT.g 3 [(AT.k (CK.int .i64))]), (OT.g 24 [(AT.k (CK.int .i64))])] 0), (Sig.mk 4 [] [(OT.g 62 [(AT.a (AV.ofl 9 3))]), (OT.g 3 [(AT.k (CK.int .i64))]), (OT.g 24 [(AT.k (CK.int .i64))]), (OT.f 0 9)] 0)])] [68] 0 RX) token_Scan_lv Tryz.f38 none R 3 [(65, [(AV.ptr 0 0 0 0), (AV.ptr 1 0 0 0), (AV.ptr 2 0 0 0)])] [1, 1, 1, 1, 0, 1, 0] (token_Scan_S0 es n1 o)
def token_Scan_R0 (R : TV → List Ob → Prop) (RX : FV → List Ob → Prop) (es : List (List FV)) (n1 : Int) (o : List (List FV)) : Prop :=
 (∃ es13 : LL, (∃ n24 : Int, (∃ b4 : Bool, ((Fn Tryz.prog 67 [(TV.one (AV.ptr 0 0 0 0)), (TV.one (AV.fz (FV.int .i64 1)))] [(Ob.g 110 [(AV.fz (FV.sl 1 es)), (AV.fz (FV.int .i64 n1))])] (TV.one (AV.fz (FV.bool b4))) [(Ob.g 110 [(AV.fz (FV.sl 1 es13)), (AV.fz (FV.int .i64 n24))])]) ∧ (((b4 = true) → ((∃ v2 : FV, ((FnX Tryz.prog 68 [(TV.one (AV.ptr 0 0 0 0))] [(Ob.g 110 [(AV.fz (FV.sl 1 es13)), (AV.fz (FV.int .i64 n24))])] v2) ∧ (∃ n25 : Int, (∃ n26 : Int, ((FnDf Tryz.prog 65 [(TV.one (AV.ptr 0 0 0 0)), (TV.one (AV.ptr 1 0 0 0)), (TV.one (AV.ptr 2 0 0 0))] [(Ob.g 62 [AV.und]), (Ob.g 3 [AV.und]), (Ob.g 24 [AV.und])] (some v2) [(Ob.g 62 [(AV.nsl 9)]), (Ob.g 3 [(AV.fz (FV.int .i64 n25))]), (Ob.g 24 [(AV.fz (FV.int .i64 n26))])]) ∧ (R (TV.tup [(false, [(AV.fz (FV.sl 9 ([] : LL)))]), (false, [(AV.fz (FV.int .i64 n25))]), (false, [(AV.fz (FV.int .i64 n26))])]) [])))))) ∨ (∃ es14 : LL, (∃ n27 : Int, (∃ n28 : Int, (∃ s4 : ByteArray, (∃ n29 : Int, (∃ s5 : ByteArray, (∃ b5 : Bool, (∃ es15 : LL, (∃ es16 : LL, (∃ n30 : Int, (∃ n31 : Int, ((Fn Tryz.prog 68 [(TV.one (AV.ptr 0 0 0 0))] [(Ob.g 110 [(AV.fz (FV.sl 1 es13)), (AV.fz (FV.int .i64 n24))])] (TV.agg [(AV.fz (FV.int .i64 n28)), (AV.fz (FV.str s4)), (AV.fz (FV.int .i64 n29)), (AV.fz (FV.str s5)), (AV.fz (FV.bool b5)), (AV.fz (FV.sl 1 es15)), (AV.fz (FV.sl 6 es16)), (AV.fz (FV.int .i64 n30)), (AV.fz (FV.int .i64 n31))]) [(Ob.g 110 [(AV.fz (FV.sl 1 es14)), (AV.fz (FV.int .i64 n27))])]) ∧ (((((List.length o) + (List.length [[(FV.int .i64 n28), (FV.str s4), (FV.int .i64 n29), (FV.str s5), (FV.bool b5), (FV.sl 1 es15), (FV.sl 6 es16), (FV.int .i64 n30), (FV.int .i64 n31)]])) * 120) ≤ 220000000000000) ∧ (∃ es17 : LL, (∃ n32 : Int, ((Fn Tryz.prog 66 [(TV.one (AV.ptr 0 0 0 0))] [(Ob.g 110 [(AV.fz (FV.sl 1 es14)), (AV.fz (FV.int .i64 n27))])] (TV.tup []) [(Ob.g 110 [(AV.fz (FV.sl 1 es17)), (AV.fz (FV.int .i64 n32))])]) ∧ (token_Scan_L0 R RX es17 n32 (o ++ [[(FV.int .i64 n28), (FV.str s4), (FV.int .i64 n29), (FV.str s5), (FV.bool b5), (FV.sl 1 es15), (FV.sl 6 es16), (FV.int .i64 n30), (FV.int .i64 n31)]])))))))))))))))))))) ∧ ((b4 = false) → (∃ n33 : Int, (∃ n34 : Int, (∃ es18 : LL, ((FnDf Tryz.prog 65 [(TV.one (AV.ptr 0 0 0 0)), (TV.one (AV.ptr 1 0 0 0)), (TV.one (AV.ptr 2 0 0 0))] [(Ob.g 62 [(AV.ofl 9 3)]), (Ob.g 3 [(AV.fz (FV.int .i64 0))]), (Ob.g 24 [(AV.fz (FV.int .i64 0))]), (Ob.f 0 9 o)] none [(Ob.g 62 [(AV.ofl 9 3)]), (Ob.g 3 [(AV.fz (FV.int .i64 n33))]), (Ob.g 24 [(AV.fz (FV.int .i64 n34))]), (Ob.f 0 9 es18)]) ∧ (R (TV.tup [(false, [(AV.fz (FV.sl 9 es18))]), (false, [(AV.fz (FV.int .i64 n33))]), (false, [(AV.fz (FV.int .i64 n34))])]) [])))))))))))
theorem token_Scan_l0 {R : TV → List Ob → Prop} {RX : FV → List Ob → Prop} {es : LL} {n1 : Int} {o : LL} (h : token_Scan_R0 R RX es n1 o) : token_Scan_L0 R RX es n1 o :=
 LoopAtD.by_tr (by kernel_rfl) (by kernel_rfl) h
def token_Scan_H (R : TV → List Ob → Prop) (RX : FV → List Ob → Prop) (tx : List (List FV)) : Prop :=
 (∃ n24 : Int, ((Fn Tryz.prog 62 [(TV.one (AV.fz (FV.sl 1 tx))), (TV.one (AV.fz (FV.fn 63 [])))] [] (TV.one (AV.fz (FV.int .i64 n24))) []) ∧ ((((decide ((0 : Int) ≤ n24)) = true) → (R (TV.tup [(false, [(AV.fz (FV.sl 9 ([] : LL)))]), (false, [(AV.fz (FV.int .i64 n24))]), (false, [(AV.fz (FV.int .i64 1))])]) [])) ∧ (((decide ((0 : Int) ≤ n24)) = false) → (∃ es13 : LL, (∃ n25 : Int, ((Fn Tryz.prog 66 [(TV.one (AV.ptr 0 0 0 0))] [(Ob.g 110 [(AV.fz (FV.sl 1 tx)), (AV.fz (FV.int .i64 0))])] (TV.tup []) [(Ob.g 110 [(AV.fz (FV.sl 1 es13)), (AV.fz (FV.int .i64 n25))])]) ∧ (token_Scan_L0 R RX es13 n25 ([] : LL)))))))))
theorem token_Scan_fn (tx : LL) {r : TV} {h : List Ob} (H : token_Scan_H (fun r' h' => r' = r ∧ Wk h' h) (fun _ _ => False) tx) : Fn Tryz.prog 38 [(TV.one (AV.fz (FV.sl 1 tx)))] [] r h :=
 Fn.by_trD (M := (modeX [] [(67, [(Sig.mk 1 [(false, [(AT.k CK.bool)])] [(OT.g 110 [(AT.k (CK.sl 1)), (AT.k (CK.int .i64))])] 0)]), (66, [(Sig.mk 1 [] [(OT.g 110 [(AT.k (CK.sl 1)), (AT.k (CK.int .i64))])] 0)]), (68, [(Sig.mk 1 [(true, [(AT.k (CK.int .i64)), (AT.k CK.str), (AT.k (CK.int .i64)), (AT.k CK.str), (AT.k CK.bool), (AT.k (CK.sl 1)), (AT.k (CK.sl 6)), (AT.k (CK.int .i64)), (AT.k (CK.int .i64))])] [(OT.g 110 [(AT.k (CK.sl 1)), (AT.k (CK.int .i64))])] 0)]), (65, [(Sig.mk 3 [] [(OT.g 62 [(AT.a (AV.nsl 9))]), (OT.g 3 [(AT.k (CK.int .i64))]), (OT.g 24 [(AT.k (CK.int .i64))])] 0), (Sig.mk 4 [] [(OT.g 62 [(AT.a (AV.ofl 9 3))]), (OT.g 3 [(AT.k (CK.int .i64))]), (OT.g 24 [(AT.k (CK.int .i64))]), (OT.f 0 9)] 0)])] [68] 0 (fun _ _ => False))) (lv := token_Scan_lv) (own := none) (n := 3) (F := Tryz.f38) (by kernel_rfl) (by kernel_rfl) (by first | decide | simp) (by kernel_rfl) H
def ixScal_lv : List Nat → Keep := lvOf [([0, 1, 0, 1], ⟨387, 0, [], false, false⟩)]
def ixScal_S0 (s : LL) (i : Int) : St := (St.mk [(TV.one (AV.fz (FV.sl 1 s))), (TV.one (AV.fz (FV.fn 63 []))), TV.und, TV.und, TV.und, TV.und, TV.und, (TV.one (AV.fz (FV.int .i64 (((List.length s) : Nat) : Int)))), (TV.one (AV.fz (FV.int .i64 i))), TV.und, TV.und, TV.und, TV.und, TV.und, TV.und, TV.und, TV.und, TV.und, TV.und] [])
def ixScal_L0 (R : TV → List Ob → Prop) (s : LL) (i : Int) : Prop := LoopAt Tryz.prog (modeOf [] []) ixScal_lv Tryz.f62 none R [1, 0, 1, 0] (ixScal_S0 s i)
def ixScal_R0 (R : TV → List Ob → Prop) (s : List (List FV)) (i : Int) : Prop :=
 ((((decide (i < (((List.length s) : Nat) : Int))) = true) → (((0 : Int) ≤ i) ∧ (∃ n2 : Int, (((s)[(Int.toNat i)]? = (some [(FV.int .i64 n2)])) ∧ (∃ b2 : Bool, ((Fn Tryz.prog 63 [(TV.one (AV.fz (FV.int .i64 n2)))] [] (TV.one (AV.fz (FV.bool b2))) []) ∧ (((b2 = true) → (R (TV.one (AV.fz (FV.int .i64 i))) [])) ∧ ((b2 = false) → (ixScal_L0 R s (IntKind.wrap .i64 (i + 1))))))))))) ∧ (((decide (i < (((List.length s) : Nat) : Int))) = false) → (R (TV.one (AV.fz (FV.int .i64 (-1)))) [])))
theorem ixScal_l0 {R : TV → List Ob → Prop} {s : List (List FV)} {i : Int} (h : ixScal_R0 R s i) : ixScal_L0 R s i :=
 LoopAt.by_tr (by kernel_rfl) (by kernel_rfl) h
def ixScal_H (R : TV → List Ob → Prop) (s : List (List FV)) : Prop :=
 (ixScal_L0 R s 0)
theorem ixScal_fn (s : LL) {r : TV} {h : List Ob} (H : ixScal_H (fun r' h' => r' = r ∧ h' = h) s) : Fn Tryz.prog 62 [(TV.one (AV.fz (FV.sl 1 s))), (TV.one (AV.fz (FV.fn 63 [])))] [] r h :=
 Fn.by_tr (M := (modeOf [] [])) (lv := ixScal_lv) (own := none) (F := Tryz.f62) (by kernel_rfl) (by kernel_rfl) (by first | decide | simp) (fun _ _ h => h) (by kernel_rfl) H
end
section
theorem Ty.inv_bool {P : Program} {t : TypeId} {fs : List FV} (h : Ty P t fs) (hu : P.underlying t = some .bool) : ∃ b, fs = [.bool b] := by
 cases h <;> simp_all
theorem Ty.inv_int {P : Program} {t : TypeId} {k : IntKind} {fs : List FV} (h : Ty P t fs) (hu : P.underlying t = some (.int k)) : ∃ n, fs = [.int k n] ∧ k.min ≤ n ∧ n ≤ k.max := by
 cases h <;> simp_all
theorem Ty.inv_str {P : Program} {t : TypeId} {fs : List FV} (h : Ty P t fs) (hu : P.underlying t = some .string) : ∃ s, fs = [.str s] ∧ s.size ≤ reachBytes := by
 cases h <;> simp_all
theorem Ty.inv_sl {P : Program} {t e : TypeId} {fs : List FV} (h : Ty P t fs) (hu : P.underlying t = some (.slice e)) : ∃ es, fs = [.sl (P.cellsOf e) es] ∧ es.length * P.bytesOf e ≤ reachBytes ∧ ∀ x ∈ es, Ty P e x := by
 cases h <;> simp_all
theorem Ty.inv_struct {P : Program} {t : TypeId} {ds : Array Field} {fs : List FV} (h : Ty P t fs) (hu : P.underlying t = some (.struct ds)) : ∃ parts : List (List FV), fs = parts.flatten ∧ parts.length = ds.size ∧ ∀ (i : Nat) (f : Field) (x : List FV), ds[i]? = some f → parts[i]? = some x → Ty P f.type x := by
 cases h <;> simp_all
 exact ⟨_, rfl, ‹_›, ‹_›⟩
theorem Ty.inv_ints {P : Program} {t e : TypeId} {k : IntKind} {fs : List FV} (h : Ty P t fs) (hu : P.underlying t = some (.slice e)) (he : P.underlying e = some (.int k)) (hc : P.cellsOf e = 1) :
  ∃ l, fs = [.sl 1 (ints k l)] ∧ (∀ x ∈ l, k.min ≤ x ∧ x ≤ k.max) ∧ l.length * P.bytesOf e ≤ reachBytes := by
 obtain ⟨es, rfl, h1, h2⟩ := h.inv_sl hu
 have : ∃ l, es = ints k l ∧ ∀ x ∈ l, k.min ≤ x ∧ x ≤ k.max := by
  clear h1 h
  induction es with
  | nil => exact ⟨[], rfl, by simp⟩
  | cons x es ih =>
   obtain ⟨l, rfl, h3⟩ := ih fun y hy => h2 y (List.mem_cons_of_mem _ hy)
   obtain ⟨n, rfl, h4, h5⟩ := (h2 x List.mem_cons_self).inv_int he
   exact ⟨n :: l, by simp [ints], fun y hy => by
    rcases List.mem_cons.1 hy with rfl | hy
    ·exact ⟨h4, h5⟩
    ·exact h3 y hy⟩
 obtain ⟨l, rfl, h3⟩ := this
 exact ⟨l, by rw [hc], h3, by rwa [ints_len] at h1⟩
theorem two_parts {α : Type} {l : List α} (h : l.length = 2) : ∃ a b, l = [a, b] := by
 match l, h with
 | [a, b], _ => exact ⟨a, b, rfl⟩
theorem tyV_int {t : TypeId} {k : IntKind} {x : TV} (h : TyV Tryz.prog t x) (hu : Tryz.prog.underlying t = some (.int k)) : ∃ n, x = fzI k n ∧ k.min ≤ n ∧ n ≤ k.max := by
 rcases h with ⟨fs, rfl, h, ds, hd⟩ | ⟨f, rfl, h⟩
 ·rw [hu] at hd; cases hd
 ·obtain ⟨n, h, h1, h2⟩ := h.inv_int hu
  cases h
  exact ⟨n, rfl, h1, h2⟩
theorem ty_Int {fs : List FV} (h : Ty Tryz.prog 31 fs) : ∃ s l, fs = [.bool s, .sl 1 (ints .u32 l)] ∧ U32 l ∧ l.length * 4 ≤ reachBytes := by
 obtain ⟨parts, rfl, h1, h2⟩ := h.inv_struct Tryz.underlying31
 obtain ⟨a, b, rfl⟩ := two_parts h1
 obtain ⟨s, rfl⟩ := (h2 0 _ a rfl rfl).inv_bool Tryz.underlying4
 obtain ⟨l, rfl, h3, h4⟩ := (h2 1 _ b rfl rfl).inv_ints Tryz.underlying29 Tryz.underlying81 (by kernel_rfl)
 refine ⟨s, l, rfl, fun x hx => ?_, ?_⟩
 ·have := h3 x hx
  simp [IntKind.min, IntKind.max, IntKind.signed, IntKind.bits] at this
  omega
 ·have e : Tryz.prog.bytesOf 81 = 4 := by kernel_rfl
  rwa [e] at h4
end
section
inductive Dt where
 | mk (kind : Int) (text : ByteArray) (neg : Bool) (limbs : List Int) (list : List Dt) (at_ : Int)
mutual
def Dt.row : Dt → List FV
 | .mk k t n l ds a => [.int .i64 k, .str t, .bool n, .sl 1 (ints .u32 l), .sl 6 (Dt.rows ds), .int .i64 a]
def Dt.rows : List Dt → List (List FV)
 | [] => []
 | d :: ds => d.row :: Dt.rows ds
end
abbrev fzD (d : Dt) : TV := .agg (d.row.map .fz)
theorem rows_get : ∀ (ds : List Dt) (i : Nat), (Dt.rows ds)[i]? = ds[i]?.map Dt.row
 | [], i => by simp [Dt.rows]
 | d :: ds, 0 => by simp [Dt.rows]
 | d :: ds, i + 1 => by simp [Dt.rows, rows_get ds i]
theorem rows_len (ds : List Dt) : (Dt.rows ds).length = ds.length := by
 induction ds with
 | nil => rfl
 | cons d ds ih => simp [Dt.rows, ih]
theorem rows_app : ∀ (a b : List Dt), Dt.rows (a ++ b) = Dt.rows a ++ Dt.rows b
 | [], b => by simp [Dt.rows]
 | d :: a, b => by simp [Dt.rows, rows_app a b]
def I64 (n : Int) : Prop := -9223372036854775808 ≤ n ∧ n ≤ 9223372036854775807
mutual
def Dt.ok : Dt → Prop
 | .mk k t _ l ds a => I64 k ∧ t.size ≤ 1048576 ∧ U32 l ∧ l.length * 4 ≤ 140737488355328 ∧ ds.length ≤ 1048576 ∧ Dt.oks ds ∧ I64 a
def Dt.oks : List Dt → Prop
 | [] => True
 | d :: ds => d.ok ∧ Dt.oks ds
end
theorem five_parts {α : Type} {l : List α} (h : l.length = 5) : ∃ a b c d e, l = [a, b, c, d, e] := by
 match l, h with
 | [a, b, c, d, e], _ => exact ⟨a, b, c, d, e, rfl⟩
theorem bulkE_mem : ∀ {es : List (List FV)} {x : List FV}, x ∈ es → FV.bulkL x ≤ FV.bulkE es
 | e :: es, x, h => by
  unfold FV.bulkE
  rcases List.mem_cons.1 h with rfl | h
  ·omega
  ·have := bulkE_mem h; omega
theorem row_bulk (d : Dt) : 1 ≤ FV.bulkL d.row := by
 obtain ⟨k, t, n, l, ds, a⟩ := d
 simp only [Dt.row, FV.bulkL, FV.bulk]; omega
theorem rows_bulk : ∀ ds : List Dt, ds.length ≤ FV.bulkE (Dt.rows ds)
 | [] => by simp
 | d :: ds => by
  have h1 := row_bulk d
  have h2 := rows_bulk ds
  simp only [Dt.rows, FV.bulkE, List.length_cons]; omega
theorem bulk_five {a b c d e : List FV} {n : Nat} (h : FV.bulkL ([a, b, c, d, e] : List (List FV)).flatten ≤ n) : FV.bulkL a ≤ n ∧ FV.bulkL b ≤ n ∧ FV.bulkL c ≤ n ∧ FV.bulkL d ≤ n ∧ FV.bulkL e ≤ n := by
 simp only [List.flatten_cons, List.flatten_nil, bulkL_app, FV.bulkL] at h
 omega
theorem ty_Dt_aux {t : TypeId} {fs : List FV} (h : Ty Tryz.prog t fs) (hbk : FV.bulkL fs ≤ 1048576) : (t = 33 → ∃ d : Dt, fs = d.row ∧ d.ok) ∧
  (t = 23 → ∃ ds : List Dt, fs = [.sl 6 (Dt.rows ds)] ∧ ds.length ≤ 1048576 ∧ Dt.oks ds) := by
 have uD := Tryz.underlying33
 have uS := Tryz.underlying23
 induction h with
 | bool b hu => exact ⟨fun e => (by subst e; rw [uD] at hu; cases hu), fun e => (by subst e; rw [uS] at hu; cases hu)⟩
 | int n hu => exact ⟨fun e => (by subst e; rw [uD] at hu; cases hu), fun e => (by subst e; rw [uS] at hu; cases hu)⟩
 | str s hu => exact ⟨fun e => (by subst e; rw [uD] at hu; cases hu), fun e => (by subst e; rw [uS] at hu; cases hu)⟩
 | sl es hu h1 h2 ih =>
  refine ⟨fun e => (by subst e; rw [uD] at hu; cases hu), fun e => ?_⟩
  subst e
  rw [uS] at hu
  cases hu
  have hc : Tryz.prog.cellsOf 33 = 6 := by kernel_rfl
  rw [hc]
  clear h1 h2
  have hbe : FV.bulkE es ≤ 1048576 := by simp only [FV.bulkL, FV.bulk] at hbk; omega
  have : ∃ ds : List Dt, es = Dt.rows ds ∧ Dt.oks ds := by
   clear hbk
   induction es with
   | nil => exact ⟨[], by simp [Dt.rows], by simp [Dt.oks]⟩
   | cons x es ih2 =>
    have hbx := bulkE_mem (es := x :: es) List.mem_cons_self
    simp only [FV.bulkE] at hbe hbx
    obtain ⟨ds, rfl, hds⟩ := ih2 (fun y hy => ih y (List.mem_cons_of_mem _ hy)) (by omega)
    obtain ⟨d, rfl, hd⟩ := (ih x List.mem_cons_self (by omega)).1 rfl
    exact ⟨d :: ds, by simp [Dt.rows], by unfold Dt.oks; exact ⟨hd, hds⟩⟩
  obtain ⟨ds, rfl, hds⟩ := this
  exact ⟨ds, rfl, Nat.le_trans (rows_bulk ds) hbe, hds⟩
 | struct parts hu h1 h2 ih =>
  refine ⟨fun e => ?_, fun e => (by subst e; rw [uS] at hu; cases hu)⟩
  subst e
  rw [uD] at hu
  cases hu
  obtain ⟨a, b, c, d, e, rfl⟩ := five_parts h1
  obtain ⟨b1, b2, b3, b4, b5⟩ := bulk_five hbk
  obtain ⟨k, rfl, k0, k1⟩ := (h2 0 _ a rfl rfl).inv_int Tryz.underlying3
  obtain ⟨s, rfl, hs⟩ := (h2 1 _ b rfl rfl).inv_str Tryz.underlying9
  obtain ⟨n, l, rfl, hl, hl2⟩ := ty_Int (h2 2 _ c rfl rfl)
  obtain ⟨ds, rfl, hd1, hd2⟩ := (ih 3 _ d rfl rfl b4).2 rfl
  obtain ⟨p, rfl, p0, p1⟩ := (h2 4 _ e rfl rfl).inv_int Tryz.underlying3
  refine ⟨.mk k s n l ds p, by simp [Dt.row], ?_⟩
  unfold Dt.ok
  exact ⟨⟨k0, k1⟩, (by simp only [FV.bulkL, FV.bulk] at b2; omega), hl, Nat.le_trans hl2 (by decide), hd1, hd2, p0, p1⟩
theorem tyV_Dt {x : TV} (h : TyV Tryz.prog 33 x) (hb : x.bulk ≤ 1048576) : ∃ d : Dt, x = fzD d ∧ d.ok ∧ FV.bulkL d.row ≤ 1048576 := by
 rcases h with ⟨fs, rfl, h, _⟩ | ⟨f, rfl, h⟩
 ·rw [bulk_agg] at hb
  obtain ⟨d, rfl, hd⟩ := (ty_Dt_aux h hb).1 rfl
  exact ⟨d, rfl, hd, hb⟩
 ·obtain ⟨d, h, hd⟩ := (ty_Dt_aux h (by simpa [FV.bulkL, TV.bulk] using hb)).1 rfl
  cases d
  simp [Dt.row] at h
end
end Go.Proofs.YtenkkekooimpjaaGreatDoor.Ev
end
