/-
 Part of a claim: definitions and lemmas that its theorem leans on, packed by wip/tools/pack.py.
-/
import Derived.Test.YtenkkekooimpjaaGreatDoorZT7
import Derived.ChangeReads
import Derived.DataReads
import Derived.Carry
import Derived.JoinedCond
import Derived.IntWalk
import Derived.Recover
import Derived.Test.YtenkkekooimpjaaGreatDoorProg
import Derived.Laws.Strings
import Derived.Shelf.Strings.Builder1
import Derived.Shelf.Strconv.Itoa3
import Derived.Shelf.Strings.Repeat
import Derived.Shelf.Strconv.AtoiAll
import Derived.Shelf.Strings.Prefix
import Derived.Shelf.Strings.SlTrimAscii
import Derived.Shelf.Strings.Trim
import Derived.Shelf.LaysM
import Derived.Shelf.Spec.DecodeRune
import Derived.Shelf.Unicode.DecodeAny
import Derived.Shelf.Spec.TrailingZeros
import Derived.Lib.AtoiAllCases
set_option linter.unusedVariables false
set_option linter.unusedSimpArgs false
section
set_option linter.unusedVariables false
set_option linter.unusedSimpArgs false
namespace Go.Proofs.YtenkkekooimpjaaGreatDoor.Ev
open Go
section
def foldS (S : Nat → Bool) : List Rec → Nat → St → St
 | [], _, st => st
 | r :: rs, k, st => foldS S rs (k + 1) (if S k then Rec.app st r else st)
theorem putT_len (t : List TV) (d : Option Tmp) (v : TV) : (putT t d v).length = t.length := by cases d <;> simp [putT]
theorem putT_get (t : List TV) (d : Option Tmp) (v : TV) (i : Nat) : (putT t d v)[i]? = if d = some i ∧ i < t.length then some v else t[i]? := by
 cases d with
 | none => simp [putT]
 | some d =>
  simp only [putT, List.getElem?_set]
  by_cases e : d = i
  ·subst e
   by_cases hl : d < t.length
   ·simp [hl]
   ·simp [hl]
  ·simp [e]
theorem putOs_len : ∀ (wr : List (Nat × Ob)) (h : List Ob), (∀ o ∈ wr.map (·.1), o < h.length) → (putOs h wr).length = h.length
 | [], h, _ => rfl
 | (o, ob) :: r, h, hr => by
  have ho := hr o (by simp)
  have hp : putO h o ob = h.set o ob := by simp [putO, ho]
  simp only [putOs, hp]
  rw [putOs_len r _ (fun k hk => by rw [List.length_set]; exact hr k (by simp at hk ⊢; exact .inr hk))]
  simp
def lastOb (o : Nat) : List (Nat × Ob) → Option Ob
 | [] => none
 | (k, ob) :: r => match lastOb o r with
  | some x => some x
  | none => if k = o then some ob else none
theorem lastOb_none {o : Nat} : ∀ {wr : List (Nat × Ob)}, o ∉ wr.map (·.1) → lastOb o wr = none
 | [], _ => rfl
 | (k, ob) :: r, h => by
  simp only [List.map_cons, List.mem_cons, not_or] at h
  simp only [lastOb, lastOb_none h.2]
  rw [if_neg (fun e => h.1 e.symm)]
theorem lastOb_some {o : Nat} : ∀ {wr : List (Nat × Ob)}, o ∈ wr.map (·.1) → ∃ ob, lastOb o wr = some ob
 | [], h => by cases h
 | (k, ob) :: r, h => by
  simp only [lastOb]
  by_cases hr : o ∈ r.map (·.1)
  ·obtain ⟨x, hx⟩ := lastOb_some hr; rw [hx]; exact ⟨x, rfl⟩
  ·rw [lastOb_none hr]
   simp only [List.map_cons, List.mem_cons] at h
   rw [if_pos (h.resolve_right hr).symm]
   exact ⟨ob, rfl⟩
theorem putOs_get : ∀ (wr : List (Nat × Ob)) (h : List Ob), (∀ o ∈ wr.map (·.1), o < h.length) → ∀ i, (putOs h wr)[i]? = match lastOb i wr with | some ob => some ob | none => h[i]?
 | [], h, _, i => rfl
 | (o, ob) :: r, h, hr, i => by
  have ho := hr o (by simp)
  have hp : putO h o ob = h.set o ob := by simp [putO, ho]
  simp only [putOs, hp]
  rw [putOs_get r _ (fun k hk => by rw [List.length_set]; exact hr k (by simp at hk ⊢; exact .inr hk))]
  simp only [lastOb]
  cases hl : lastOb i r with
  | some x => rfl
  | none =>
   simp only
   rw [List.getElem?_set]
   by_cases e : o = i
   ·subst e; simp [ho]
   ·simp [e]
theorem app_len {st : St} {r : Rec} (h : ∀ o ∈ r.ids, o < st.h.length) : (Rec.app st r).t.length = st.t.length ∧ (Rec.app st r).h.length = st.h.length := ⟨putT_len _ _ _, putOs_len _ _ h⟩
theorem foldS_len (S : Nat → Bool) : ∀ (rs : List Rec) (k : Nat) (st : St), (∀ r ∈ rs, ∀ o ∈ r.ids, o < st.h.length) → (foldS S rs k st).t.length = st.t.length ∧ (foldS S rs k st).h.length = st.h.length
 | [], _, _, _ => ⟨rfl, rfl⟩
 | r :: rs, k, st, h => by
  have ha := app_len (st := st) (h r (by simp))
  simp only [foldS]
  split
  ·obtain ⟨h1, h2⟩ := foldS_len S rs (k + 1) (Rec.app st r) (fun r' hr o ho => by rw [ha.2]; exact h r' (by simp [hr]) o ho)
   exact ⟨h1.trans ha.1, h2.trans ha.2⟩
  ·exact foldS_len S rs (k + 1) st (fun r' hr => h r' (by simp [hr]))
theorem foldS_t (S S' : Nat → Bool) (d : Nat) : ∀ (rs : List Rec) (k : Nat) (st st' : St), st.t.length = st'.t.length → st.t[d]? = st'.t[d]? → (∀ (i : Nat) (r : Rec), rs[i]? = some r → r.dst = some d → S (k + i) = S' (k + i)) →
  (foldS S rs k st).t[d]? = (foldS S' rs k st').t[d]?
 | [], _, _, _, _, h, _ => h
 | r :: rs, k, st, st', hl, h, hS => by
  simp only [foldS]
  refine foldS_t S S' d rs (k + 1) _ _ ?_ ?_ (fun i r' hr hd => by have := hS (i + 1) r' hr hd; rw [show k + 1 + i = k + (i + 1) by omega]; exact this)
  ·split <;> split <;> simp [Rec.app, putT_len, hl]
  ·have key : ∀ s : St, s.t.length = st.t.length → s.t[d]? = st.t[d]? → (Rec.app s r).t[d]? = if r.dst = some d ∧ d < st.t.length then some r.v else st.t[d]? := by
    intro s h1 h2
    simp only [Rec.app, putT_get, h1, h2]
   by_cases hd : r.dst = some d
   ·have := hS 0 r rfl hd
    simp only [Nat.add_zero] at this
    rw [this]
    split
    ·rw [key st rfl rfl, key st' hl.symm h.symm]
    ·exact h
   ·have hn : ∀ s : St, s.t.length = st.t.length → s.t[d]? = st.t[d]? → (Rec.app s r).t[d]? = st.t[d]? := fun s h1 h2 => by rw [key s h1 h2, if_neg (fun hc => hd hc.1)]
    split <;> split
    ·rw [hn st rfl rfl, hn st' hl.symm h.symm]
    ·rw [hn st rfl rfl]; exact h
    ·rw [hn st' hl.symm h.symm]
    ·exact h
theorem foldS_h (S S' : Nat → Bool) (d : Nat) : ∀ (rs : List Rec) (k : Nat) (st st' : St), st.h.length = st'.h.length → (∀ r ∈ rs, ∀ o ∈ r.ids, o < st.h.length) → st.h[d]? = st'.h[d]? → (∀ (i : Nat) (r : Rec), rs[i]? = some r → d ∈ r.ids → S (k + i) = S' (k + i)) →
  (foldS S rs k st).h[d]? = (foldS S' rs k st').h[d]?
 | [], _, _, _, _, _, h, _ => h
 | r :: rs, k, st, st', hl, hr, h, hS => by
  simp only [foldS]
  have ha := (app_len (st := st) (hr r (by simp))).2
  have ha' := (app_len (st := st') (by rw [← hl]; exact hr r (by simp))).2
  refine foldS_h S S' d rs (k + 1) _ _ ?_ ?_ ?_ (fun i r' hr hd => by have := hS (i + 1) r' hr hd; rw [show k + 1 + i = k + (i + 1) by omega]; exact this)
  ·split <;> split <;> simp [ha, ha', hl]
  ·intro r' hr' o ho
   have := hr r' (by simp [hr']) o ho
   split <;> simp [ha] <;> exact this
  ·have key : ∀ s : St, s.h.length = st.h.length → s.h[d]? = st.h[d]? → (Rec.app s r).h[d]? = match lastOb d r.wr with | some ob => some ob | none => st.h[d]? := by
    intro s h1 h2
    simp only [Rec.app]
    rw [putOs_get _ _ (by rw [h1]; exact hr r (by simp)), h2]
   by_cases hd : d ∈ r.ids
   ·have := hS 0 r rfl hd
    simp only [Nat.add_zero] at this
    rw [this]
    split
    ·rw [key st rfl rfl, key st' hl.symm h.symm]
    ·exact h
   ·have hn : ∀ s : St, s.h.length = st.h.length → s.h[d]? = st.h[d]? → (Rec.app s r).h[d]? = st.h[d]? := fun s h1 h2 => by rw [key s h1 h2, lastOb_none hd]
    split <;> split
    ·rw [hn st rfl rfl, hn st' hl.symm h.symm]
    ·rw [hn st rfl rfl]; exact h
    ·rw [hn st' hl.symm h.symm]
    ·exact h
theorem foldS_t1 (S : Nat → Bool) (d j : Nat) (rj : Rec) (hd : rj.dst = some d) : ∀ (rs : List Rec) (k : Nat) (st : St), rs[j]? = some rj → S (k + j) = true → (∀ (i : Nat) (r : Rec), rs[i]? = some r → r.dst = some d → i = j) → d < st.t.length → (foldS S rs k st).t[d]? = some rj.v
 | [], _, _, h, _, _, _ => by cases h
 | r :: rs, k, st, hj, hS, hu, hl => by
  simp only [foldS]
  cases j with
  | zero =>
   cases hj
   simp only [Nat.add_zero] at hS
   rw [if_pos hS]
   have := foldS_t S (fun _ => false) d rs (k + 1) (Rec.app st rj) (Rec.app st rj) rfl rfl (fun i r' hr hd' => by have := hu (i + 1) r' hr hd'; omega)
   rw [this]
   have nil : ∀ (rs : List Rec) (k : Nat) (s : St), foldS (fun _ => false) rs k s = s := by
    intro rs
    induction rs with
    | nil => intro k s; rfl
    | cons r rs ih => intro k s; simp only [foldS, Bool.false_eq_true, if_false]; exact ih _ _
   rw [nil]
   simp only [Rec.app, putT_get]
   rw [if_pos ⟨hd, hl⟩]
  | succ j =>
   refine foldS_t1 S d j rj hd rs (k + 1) _ hj (by rw [show k + 1 + j = k + (j + 1) by omega]; exact hS) (fun i r' hr hd' => by have := hu (i + 1) r' hr hd'; omega) ?_
   split
   ·simpa [Rec.app, putT_len] using hl
   ·exact hl
theorem foldS_h1 (S : Nat → Bool) (d j : Nat) (rj : Rec) (ob : Ob) (hd : lastOb d rj.wr = some ob) : ∀ (rs : List Rec) (k : Nat) (st : St), rs[j]? = some rj → S (k + j) = true → (∀ (i : Nat) (r : Rec), rs[i]? = some r → d ∈ r.ids → j < i → S (k + i) = false) →
  (∀ r ∈ rs, ∀ o ∈ r.ids, o < st.h.length) → (foldS S rs k st).h[d]? = some ob
 | [], _, _, h, _, _, _ => by cases h
 | r :: rs, k, st, hj, hS, hu, hl => by
  simp only [foldS]
  have ha := (app_len (st := st) (hl r (by simp))).2
  cases j with
  | zero =>
   cases hj
   simp only [Nat.add_zero] at hS
   rw [if_pos hS]
   have := foldS_h S (fun _ => false) d rs (k + 1) (Rec.app st rj) (Rec.app st rj) rfl (fun r' hr o ho => by rw [ha]; exact hl r' (by simp [hr]) o ho) rfl (fun i r' hr hd' => by have := hu (i + 1) r' hr hd' (by omega); rw [show k + 1 + i = k + (i + 1) by omega]; exact this)
   rw [this]
   have nil : ∀ (rs : List Rec) (k : Nat) (s : St), foldS (fun _ => false) rs k s = s := by
    intro rs
    induction rs with
    | nil => intro k s; rfl
    | cons r rs ih => intro k s; simp only [foldS, Bool.false_eq_true, if_false]; exact ih _ _
   rw [nil]
   simp only [Rec.app]
   rw [putOs_get _ _ (hl rj (by simp)), hd]
  | succ j =>
   refine foldS_h1 S d j rj ob hd rs (k + 1) _ hj (by rw [show k + 1 + j = k + (j + 1) by omega]; exact hS) (fun i r' hr hd' hji => by have := hu (i + 1) r' hr hd' (by omega); rw [show k + 1 + i = k + (i + 1) by omega]; exact this) ?_
   intro r' hr' o ho
   have := hl r' (by simp [hr']) o ho
   split <;> simp [ha] <;> exact this
theorem foldS_take : ∀ (rs : List Rec) (n k : Nat) (st : St), foldS (fun i => decide (i < k + n)) rs k st = (rs.take n).foldl Rec.app st
 | [], n, k, st => by simp [foldS]
 | r :: rs, 0, k, st => by
  have nil : ∀ (rs : List Rec) (k' : Nat) (s : St), k ≤ k' → foldS (fun i => decide (i < k + 0)) rs k' s = s := by
   intro rs
   induction rs with
   | nil => intro k s _; rfl
   | cons r rs ih => intro k' s hk; simp only [foldS]; rw [if_neg (by simp; omega)]; exact ih _ _ (by omega)
  rw [nil _ _ _ (Nat.le_refl _)]
  simp
 | r :: rs, n + 1, k, st => by
  simp only [foldS, List.take_succ_cons, List.foldl_cons]
  rw [if_pos (by simp), show k + (n + 1) = k + 1 + n by omega]
  exact foldS_take rs n (k + 1) _
def closed (ops : Array Oper) (S : Nat → Bool) : Prop := ∀ (j : Nat) (o : Oper), ops[j]? = some o → S j = true → ∀ e ∈ o.after, Region.binds .any e = true → S e.on = true
theorem foldl_bit (acc : List Nat) : ∀ (es : List Edge) (s i : Nat), (es.foldl (fun s e => if Region.binds .any e = true then s ||| 2 ^ e.on ||| acc.getD e.on 0 else s) s).testBit i = true →
  s.testBit i = true ∨ ∃ e ∈ es, Region.binds .any e = true ∧ (e.on = i ∨ (acc.getD e.on 0).testBit i = true)
 | [], s, i, h => .inl h
 | e :: es, s, i, h => by
  simp only [List.foldl_cons] at h
  rcases foldl_bit acc es _ i h with h1 | ⟨e', he', h1⟩
  ·by_cases hb : Region.binds .any e = true
   ·rw [if_pos hb] at h1
    simp only [Nat.testBit_or, Bool.or_eq_true] at h1
    rcases h1 with (h1 | h1) | h1
    ·exact .inl h1
    ·rw [Nat.testBit_two_pow] at h1
     exact .inr ⟨e, by simp, hb, .inl (by simpa using h1)⟩
    ·exact .inr ⟨e, by simp, hb, .inr h1⟩
   ·rw [if_neg hb] at h1; exact .inl h1
  ·exact .inr ⟨e', by simp [he'], h1⟩
theorem masks_get : ∀ (l : List Oper) (acc : List Nat) (j : Nat), (masks l acc).length = acc.length + l.length ∧ (j < acc.length → (masks l acc).getD j 0 = acc.getD j 0)
 | [], acc, j => ⟨rfl, fun _ => rfl⟩
 | o :: r, acc, j => by
  simp only [masks]
  obtain ⟨h1, h2⟩ := masks_get r (acc ++ [o.after.toList.foldl (fun s e => if Region.binds .any e = true then s ||| 2 ^ e.on ||| acc.getD e.on 0 else s) 0]) j
  refine ⟨by rw [h1]; simp; omega, fun hj => ?_⟩
  rw [h2 (by simp; omega)]
  simp [List.getD_eq_getElem?_getD, List.getElem?_append_left hj]
theorem masks_bit : ∀ (l : List Oper) (acc : List Nat) (j i : Nat), acc.length ≤ j → j < acc.length + l.length → ((masks l acc).getD j 0).testBit i = true →
  ∃ o, l[j - acc.length]? = some o ∧ ∃ e ∈ o.after, Region.binds .any e = true ∧ (e.on = i ∨ (e.on < j ∧ ((masks l acc).getD e.on 0).testBit i = true))
 | [], acc, j, i, h1, h2, _ => by simp at h2; omega
 | o :: r, acc, j, i, h1, h2, hb => by
  simp only [masks] at hb ⊢
  let m := o.after.toList.foldl (fun s e => if Region.binds .any e = true then s ||| 2 ^ e.on ||| acc.getD e.on 0 else s) 0
  by_cases hj : j = acc.length
  ·have h3 := (masks_get r (acc ++ [m]) j).2 (by simp; omega)
   rw [show (masks r (acc ++ [o.after.toList.foldl (fun s e => if Region.binds .any e = true then s ||| 2 ^ e.on ||| acc.getD e.on 0 else s) 0])) = masks r (acc ++ [m]) from rfl, h3] at hb
   have h4 : (acc ++ [m]).getD j 0 = m := by subst hj; simp [List.getD_eq_getElem?_getD]
   rw [h4] at hb
   rcases foldl_bit acc _ _ i hb with h5 | ⟨e, he, h5, h6⟩
   ·simp at h5
   ·refine ⟨o, by simp [hj], e, by simpa using he, h5, ?_⟩
    rcases h6 with h6 | h6
    ·exact .inl h6
    ·have hlt : e.on < acc.length := by
      rcases Nat.lt_or_ge e.on acc.length with h' | h'
      ·exact h'
      ·rw [List.getD_eq_getElem?_getD, List.getElem?_eq_none h'] at h6; simp at h6
     refine .inr ⟨by omega, ?_⟩
     rw [(masks_get r (acc ++ [m]) e.on).2 (by simp; omega)]
     simpa [List.getD_eq_getElem?_getD, List.getElem?_append_left hlt] using h6
  ·obtain ⟨o', h3, e, he, h4, h5⟩ := masks_bit r (acc ++ [m]) j i (by simp; omega) (by simp at h2 ⊢; omega) hb
   refine ⟨o', ?_, e, he, h4, h5⟩
   rw [← h3]
   simp only [List.length_append, List.length_singleton]
   rw [show j - acc.length = (j - (acc.length + 1)) + 1 by omega]
   rfl
theorem ord_done {ops : Array Oper} {S : Nat → Bool} (hc : closed ops S) : ∀ (j i : Nat) (oj : Oper), ops[j]? = some oj → (∀ e ∈ oj.after, Region.binds .any e = true → S e.on = true) → ((masks ops.toList []).getD j 0).testBit i = true → S i = true := by
 intro j
 induction j using Nat.strongRecOn with
 | _ j ih =>
  intro i oj hj ha hb
  have hlt : j < ops.toList.length := by
   rcases Nat.lt_or_ge j ops.size with h' | h'
   ·simpa using h'
   ·rw [Array.getElem?_eq_none h'] at hj; cases hj
  obtain ⟨o, h1, e, he, h2, h3⟩ := masks_bit ops.toList [] j i (Nat.zero_le _) (by simpa using hlt) hb
  have ho : o = oj := by
   have : ops.toList[j]? = some oj := by simpa using hj
   simp only [List.length_nil, Nat.sub_zero] at h1
   rw [this] at h1; cases h1; rfl
  subst ho
  have hs := ha e he h2
  rcases h3 with h3 | ⟨h3, h4⟩
  ·rw [← h3]; exact hs
  ·have hlt2 : e.on < ops.size := by simp at hlt; omega
   exact ih e.on h3 i ops[e.on] (by simp [hlt2]) (hc e.on _ (by simp [hlt2]) hs) h4
end
section
structure DrawOK (ops : Array Oper) (base : Nat) (recs : List Rec) : Prop where
 len : recs.length = ops.size
 nosel : Region.noSelect ops = true
 edge : ∀ (i : Nat) (oi : Oper), ops[i]? = some oi → ∀ e ∈ oi.after, Region.binds .any e = true → e.on < i
 idlt : ∀ (i : Nat) (ri : Rec), recs[i]? = some ri → ∀ o ∈ ri.ids, o < base + ops.size
 idbase : ∀ (i : Nat) (ri : Rec), recs[i]? = some ri → ∀ o ∈ ri.ids, base ≤ o → o - base = i ∨ ordB (masks ops.toList []) (o - base) i = true
 pair : ∀ (i j : Nat) (oi oj : Oper) (ri rj : Rec), i ≠ j → ops[i]? = some oi → ops[j]? = some oj → recs[i]? = some ri → recs[j]? = some rj →
  ordB (masks ops.toList []) i j = true ∨ ordB (masks ops.toList []) j i = true ∨ ((∀ d, oi.dst = some d → d ∉ oj.looksAt ops) ∧ ∀ o ∈ ri.ids, o ∉ rj.rd ∧ o ∉ rj.ids)
 dst : ∀ (i j : Nat) (oi oj : Oper) (d : Tmp), i ≠ j → ops[i]? = some oi → ops[j]? = some oj → oi.dst = some d → oj.dst ≠ some d
theorem okDraw_spec {ops : Array Oper} {base : Nat} {recs : List Rec} (h : okDraw ops base recs = true) : DrawOK ops base recs := by
 unfold okDraw at h
 simp only [Bool.and_eq_true, beq_iff_eq] at h
 obtain ⟨⟨⟨h1, h2⟩, h3⟩, h4⟩ := h
 have hlen : recs.length = ops.size := by omega
 have hz : ∀ (i : Nat) (oi : Oper) (ri : Rec), ops[i]? = some oi → recs[i]? = some ri → ((oi, ri), i) ∈ (ops.toList.zip recs).zipIdx := by
  intro i oi ri ho hr
  refine List.mem_of_getElem? (i := i) ?_
  rw [List.getElem?_zipIdx]
  have : (ops.toList.zip recs)[i]? = some (oi, ri) := by
   rw [List.getElem?_zip_eq_some]
   exact ⟨by simpa using ho, hr⟩
  rw [this]; simp
 have hex : ∀ (i : Nat) (oi : Oper), ops[i]? = some oi → ∃ ri, recs[i]? = some ri := by
  intro i oi ho
  have : i < recs.length := by
   rw [hlen]
   rcases Nat.lt_or_ge i ops.size with h' | h'
   ·exact h'
   ·rw [Array.getElem?_eq_none h'] at ho; cases ho
  exact ⟨_, List.getElem?_eq_getElem this⟩
 have hex' : ∀ (i : Nat) (ri : Rec), recs[i]? = some ri → ∃ oi, ops[i]? = some oi := by
  intro i ri hr
  have : i < ops.size := by
   rw [← hlen]
   rcases Nat.lt_or_ge i recs.length with h' | h'
   ·exact h'
   ·rw [List.getElem?_eq_none h'] at hr; cases hr
  exact ⟨_, Array.getElem?_eq_getElem this⟩
 have hall := List.all_eq_true.1 h4
 have one : ∀ (i : Nat) (oi : Oper) (ri : Rec), ops[i]? = some oi → recs[i]? = some ri → _ := fun i oi ri ho hr => hall _ (hz i oi ri ho hr)
 refine ⟨hlen, h3, fun i oi ho e he hb => ?_, fun i ri hr o hm => ?_, fun i ri hr o hm hb => ?_, fun i j oi oj ri rj hne hoi hoj hri hrj => ?_, fun i j oi oj d hne hoi hoj hd => ?_⟩
 ·obtain ⟨ri, hr⟩ := hex i oi ho
  have := one i oi ri ho hr
  simp only [Bool.and_eq_true] at this
  have h5 := (Array.all_eq_true_iff_forall_mem.1 this.1.1) e he
  simpa [hb] using h5
 ·obtain ⟨oi, ho⟩ := hex' i ri hr
  have := one i oi ri ho hr
  simp only [Bool.and_eq_true] at this
  have h5 := (List.all_eq_true.1 this.1.2) o hm
  simp only [Bool.and_eq_true, decide_eq_true_eq] at h5
  exact h5.1
 ·obtain ⟨oi, ho⟩ := hex' i ri hr
  have := one i oi ri ho hr
  simp only [Bool.and_eq_true] at this
  have h5 := (List.all_eq_true.1 this.1.2) o hm
  simp only [Bool.and_eq_true, Bool.or_eq_true, decide_eq_true_eq, beq_iff_eq] at h5
  rcases h5.2 with (h6 | h6) | h6
  ·omega
  ·exact .inl h6
  ·exact .inr h6
 ·have := one i oi ri hoi hri
  simp only [Bool.and_eq_true] at this
  have h5 := (List.all_eq_true.1 this.2) _ (hz j oj rj hoj hrj)
  simp only [Bool.or_eq_true, beq_iff_eq, Bool.and_eq_true] at h5
  rcases h5 with h5 | h5
  ·exact absurd h5 hne
  ·have h6 := h5.1
   unfold okPair at h6
   simp only [Bool.or_eq_true, Bool.and_eq_true] at h6
   rcases h6 with (h6 | h6) | ⟨h6, h7⟩
   ·exact .inl h6
   ·exact .inr (.inl h6)
   ·refine .inr (.inr ⟨fun d hd => ?_, fun o hm => ?_⟩)
    ·rw [hd] at h6
     simpa using h6
    ·simp only [Bool.not_eq_true', List.any_eq_false] at h7
     have := h7 o hm
     simp only [Bool.or_eq_true, List.contains_iff_mem, not_or] at this
     exact this
 ·obtain ⟨ri, hri⟩ := hex i oi hoi
  obtain ⟨rj, hrj⟩ := hex j oj hoj
  have := one i oi ri hoi hri
  simp only [Bool.and_eq_true] at this
  have h5 := (List.all_eq_true.1 this.2) _ (hz j oj rj hoj hrj)
  simp only [Bool.or_eq_true, beq_iff_eq, Bool.and_eq_true] at h5
  rcases h5 with h5 | h5
  ·exact absurd h5 hne
  ·have h6 := h5.2
   rw [hd] at h6
   simpa using h6
theorem drew_rep {P : Program} {ext : Nat → Prop} {w0 : World} {own0 : Own0} {st : St} {a : Act} {w : World} (R : Rep P ext w0 own0 st a w) : Rep P ext w0 own0 st a { w with drawn := w.drawn + 1 } := by
 obtain ⟨locs, H, RTm⟩ := R.repT
 obtain ⟨H', lt⟩ := H.grow (w' := { w with drawn := w.drawn + 1 }) (fun _ _ => rfl) (Nat.le_refl _) rfl rfl rfl
 exact ⟨R.defers, R.size, locs, H', fun i x hx => by obtain ⟨u, hu, hr⟩ := RTm i x hx; exact ⟨u, hu, hr.later lt (fun _ _ h => h)⟩⟩
theorem res_rep {P : Program} {ext : Nat → Prop} {w0 : World} {own0 : Own0} {t : List TV} {h : List Ob} {a : Act} {w : World} (R : Rep P ext w0 own0 ⟨t, h⟩ a w) (n : Nat) : Rep P ext w0 own0 ⟨t, h ++ List.replicate n .rs⟩ a w := by
 obtain ⟨locs, H, RTm⟩ := R.repT
 have hget : ∀ (o : Nat) (ob : Ob), (h ++ List.replicate n Ob.rs)[o]? = some ob → h[o]? = some ob ∨ (h.length ≤ o ∧ ob = .rs) := by
  intro o ob ho
  by_cases hl : o < h.length
  ·rw [List.getElem?_append_left hl] at ho; exact .inl ho
  ·rw [List.getElem?_append_right (by omega), List.getElem?_replicate] at ho
   split at ho
   ·cases ho; exact .inr ⟨by omega, rfl⟩
   ·cases ho
 have hown : ∀ b, ownB locs (h ++ List.replicate n Ob.rs) b → ownB locs h b := by
  rintro b ⟨o, l, d, ob, h1, h2, h3⟩
  rcases hget o ob h1 with h1 | ⟨_, rfl⟩
  ·exact ⟨o, l, d, ob, h1, h2, h3⟩
  ·cases h2
 have lt : Later w (Bar ext locs h) w (Bar ext locs (h ++ List.replicate n Ob.rs)) := ⟨fun _ _ _ => rfl, fun b _ hb => hb.elim .inl (fun hb => .inr (hown b hb))⟩
 refine ⟨R.defers, R.size, locs, ⟨fun o ho => H.len o (by simp at ho; show h.length ≤ o; omega), fun o ob ho => ?_, fun o o' l l' ob ob' d d' hne ho ho' hlv hlv' => ?_, fun b hb ho => H.extOwn b hb (hown b ho), H.extlt, fun b hb ho => H.ownOld b hb (hown b ho), H.since, H.base, H.pins, H.ownlt⟩, fun i x hx => ?_⟩
 ·rcases hget o ob ho with h1 | ⟨h1, rfl⟩
  ·rcases H.ob o ob h1 with h2 | h2 | ⟨l, h2, h3⟩
   ·exact .inl h2
   ·exact .inr (.inl h2)
   ·exact .inr (.inr ⟨l, h2, h3.later lt (fun _ _ h => h) (fun _ _ _ => rfl) (fun _ _ _ => rfl)⟩)
  ·exact .inr (.inl ⟨rfl, H.len o h1⟩)
 ·rcases hget o ob ho with h1 | ⟨_, rfl⟩
  ·rcases hget o' ob' ho' with h2 | ⟨_, rfl⟩
   ·exact H.apart o o' l l' ob ob' d d' hne h1 h2 hlv hlv'
   ·cases hlv'
  ·cases hlv
 ·obtain ⟨u, hu, hr⟩ := RTm i x hx
  exact ⟨u, hu, hr.later lt (fun _ _ h => h)⟩
def left (listed : Array Bool) : Nat := (listed.toList.filter (fun b => !b)).length
theorem left_set {listed : Array Bool} {i : Nat} (hi : i < listed.size) (h : listed[i]? = some false) : left (listed.setIfInBounds i true) + 1 = left listed := by
 have key : ∀ (l : List Bool) (i : Nat), l[i]? = some false → ((l.set i true).filter (fun b => !b)).length + 1 = (l.filter (fun b => !b)).length := by
  intro l
  induction l with
  | nil => intro i h; simp at h
  | cons b l ih =>
   intro i h
   cases i with
   | zero => cases h; simp
   | succ i =>
    have := ih i h
    cases b <;> simp at this ⊢ <;> omega
 unfold left
 rw [Array.toList_setIfInBounds]
 exact key listed.toList i (by simpa using h)
theorem foldS_congr {S S' : Nat → Bool} : ∀ (rs : List Rec) (k : Nat) (st : St), (∀ i, i < rs.length → S (k + i) = S' (k + i)) → foldS S rs k st = foldS S' rs k st
 | [], _, _, _ => rfl
 | r :: rs, k, st, h => by
  simp only [foldS]
  have h0 := h 0 (by simp)
  simp only [Nat.add_zero] at h0
  rw [h0]
  exact foldS_congr rs (k + 1) _ (fun i hi => by have := h (i + 1) (by simp; omega); rw [show k + 1 + i = k + (i + 1) by omega]; exact this)
theorem foldS_put {S S' : Nat → Bool} {recs : List Rec} {st0 : St} {i : Nat} {r : Rec} (hr : recs[i]? = some r) (hS : S i = false) (hS' : S' i = true) (hne : ∀ k, k ≠ i → S' k = S k) (hids : ∀ r ∈ recs, ∀ o ∈ r.ids, o < st0.h.length)
  (hdst : ∀ (k : Nat) (rk : Rec) (d : Tmp), recs[k]? = some rk → rk.dst = some d → r.dst = some d → k = i) (hw : ∀ (k : Nat) (rk : Rec) (o : Nat), recs[k]? = some rk → o ∈ rk.ids → o ∈ r.ids → i < k → S k = false) :
  foldS S' recs 0 st0 = Rec.app (foldS S recs 0 st0) r := by
 obtain ⟨l1, l2⟩ := foldS_len S recs 0 st0 hids
 obtain ⟨l3, l4⟩ := foldS_len S' recs 0 st0 hids
 have hri : ∀ o ∈ r.ids, o < (foldS S recs 0 st0).h.length := by rw [l2]; exact hids r (List.mem_of_getElem? hr)
 obtain ⟨l5, l6⟩ := app_len hri
 have et : (foldS S' recs 0 st0).t = (Rec.app (foldS S recs 0 st0) r).t := by
  apply List.ext_getElem?
  intro d
  simp only [Rec.app, putT_get]
  by_cases hd : r.dst = some d ∧ d < (foldS S recs 0 st0).t.length
  ·rw [if_pos hd]
   exact foldS_t1 S' d i r hd.1 recs 0 st0 hr (by simpa using hS') (fun k rk hk hkd => hdst k rk d hk hkd hd.1) (by rw [← l1]; exact hd.2)
  ·rw [if_neg hd]
   by_cases hl : d < st0.t.length
   ·refine foldS_t S' S d recs 0 st0 st0 rfl rfl (fun k rk hk hkd => ?_)
    rw [Nat.zero_add]
    refine hne k ?_
    rintro rfl
    rw [hr] at hk; cases hk
    exact hd ⟨hkd, by rw [l1]; exact hl⟩
   ·rw [List.getElem?_eq_none (by omega), List.getElem?_eq_none (by omega)]
 have eh : (foldS S' recs 0 st0).h = (Rec.app (foldS S recs 0 st0) r).h := by
  apply List.ext_getElem?
  intro o
  simp only [Rec.app]
  rw [putOs_get _ _ hri]
  by_cases ho : o ∈ r.ids
  ·obtain ⟨ob, hob⟩ := lastOb_some ho
   rw [hob]
   exact foldS_h1 S' o i r ob hob recs 0 st0 hr (by simpa using hS') (fun k rk hk hko hik => by rw [Nat.zero_add, hne k (by omega)]; exact hw k rk o hk hko ho hik) hids
  ·rw [lastOb_none ho]
   refine foldS_h S' S o recs 0 st0 st0 rfl hids rfl (fun k rk hk hko => ?_)
   rw [Nat.zero_add]
   refine hne k ?_
   rintro rfl
   rw [hr] at hk; cases hk
   exact ho hko
 cases hq : foldS S' recs 0 st0
 cases hq2 : Rec.app (foldS S recs 0 st0) r
 rw [hq, hq2] at et eh
 simp only at et eh
 rw [et, eh]
section
variable {P : Program} {ops : Array Oper} {base : Nat} {recs : List Rec} {st0 : St} {ext : Nat → Prop} {w0 : World} {own0 : Own0} {Q : Exit → Act → World → Prop}
theorem draw_any (pn : Option (Nat × FV)) (D : DrawOK ops base recs) (hb : st0.h.length = base + ops.size) (hrs : ∀ i, i < ops.size → st0.h[base + i]? = some .rs)
  (hT : ∀ (i : Nat) (r : Rec), recs[i]? = some r → AllTold P ops base pn i ((recs.take i).foldl Rec.app st0) r) (hpl : ∀ i0 x, pn = some (i0, x) → i0 < ops.size)
  (hQ : pn = none → ∀ a w, Rep P ext w0 own0 (recs.foldl Rec.app st0) a w → Q .normal a w)
  (hX : ∀ i0 x, pn = some (i0, x) → ∀ (S : Nat → Bool) (v : Value) (a : Act) (w : World), Rep P ext w0 own0 ⟨(foldS S recs 0 st0).t ++ [.one (.fz x)], shH (foldS S recs 0 st0).h⟩ { a with tmps := a.tmps.push v } w → Q (.panic [{ v, recovered := false }]) a w) :
  ∀ (fuel : Nat) (listed : Array Bool) (a : Act) (w : World), left listed = fuel → listed.size = ops.size → closed ops (fun i => listed.getD i false) → (∀ i0 x, pn = some (i0, x) → listed.getD i0 false = false) → Rep P ext w0 own0 (foldS (fun i => listed.getD i false) recs 0 st0) a w → wpAny P .any ops Q fuel listed a w := by
 have hids : ∀ r ∈ recs, ∀ o ∈ r.ids, o < st0.h.length := by
  intro r hr o ho
  obtain ⟨i, hi, hir⟩ := List.getElem_of_mem hr
  rw [hb]
  exact D.idlt i r (by rw [← hir]; exact List.getElem?_eq_getElem hi) o ho
 have rdy : ∀ (listed : Array Bool) (i : Nat), i ∈ Region.ready .any ops listed → listed[i]? = some false := by
  intro listed i hi
  have := (mem_ready.1 hi).1
  rw [Array.getD_eq_getD_getElem?] at this
  cases h : listed[i]? with
  | none => rw [h] at this; cases this
  | some b => rw [h] at this; simp only [Option.getD_some] at this; rw [this]
 have done : ∀ (listed : Array Bool), listed.size = ops.size → Region.ready .any ops listed = [] → ∀ i, i < ops.size → listed.getD i false = true := by
  intro listed hsz hr i
  induction i using Nat.strongRecOn with
  | _ i ih =>
   intro hi
   cases hl : listed.getD i false with
   | true => rfl
   | false =>
    exfalso
    have hin : i ∈ Region.ready .any ops listed := by
     rw [mem_ready]
     refine ⟨?_, ops[i], by simp [hi], fun e he hbd => ?_⟩
     ·have hi2 : i < listed.size := by omega
      simp [hi2] at hl ⊢
      exact hl
     ·have h1 := D.edge i ops[i] (by simp [hi]) e he hbd
      exact ih e.on h1 (by omega)
    rw [hr] at hin; cases hin
 have fin : ∀ (listed : Array Bool) (a : Act) (w : World), listed.size = ops.size → (∀ i0 x, pn = some (i0, x) → listed.getD i0 false = false) → Region.ready .any ops listed = [] → Rep P ext w0 own0 (foldS (fun i => listed.getD i false) recs 0 st0) a w → Q .normal a w := by
  intro listed a w hsz hpn hr R
  have hall := done listed hsz hr
  have hno : pn = none := by
   cases hq : pn with
   | none => rfl
   | some q =>
    obtain ⟨i0, x⟩ := q
    have h1 := hall i0 (hpl i0 x hq)
    rw [hpn i0 x hq] at h1
    cases h1
  have he : foldS (fun i => listed.getD i false) recs 0 st0 = recs.foldl Rec.app st0 := by
   rw [foldS_congr (S' := fun i => decide (i < 0 + recs.length)) recs 0 st0 (fun i hi => by
    have := hall i (by rw [← D.len]; exact hi)
    simp only [Nat.zero_add]
    rw [this]
    simp [hi])]
   rw [foldS_take, List.take_length]
  rw [he] at R
  exact hQ hno a w R
 intro fuel
 induction fuel with
 | zero =>
  intro listed a w hl hsz hc hpn R
  have hr : Region.ready .any ops listed = [] := by
   cases hq : Region.ready .any ops listed with
   | nil => rfl
   | cons i r =>
    have h1 := rdy listed i (by rw [hq]; simp)
    have hi : i < listed.size := by
     rcases Nat.lt_or_ge i listed.size with h' | h'
     ·exact h'
     ·rw [Array.getElem?_eq_none h'] at h1; cases h1
    have := left_set hi h1
    omega
  exact ⟨hr, fin listed a w hsz hpn hr R⟩
 | succ fuel ih =>
  intro listed a w hl hsz hc hpn R
  refine ⟨fun hr => fin listed a w hsz hpn hr R, fun i hi => ?_⟩
  have hlf := rdy listed i hi
  obtain ⟨_, o, ho, hpre⟩ := mem_ready.1 hi
  have hil : i < listed.size := by
   rcases Nat.lt_or_ge i listed.size with h' | h'
   ·exact h'
   ·rw [Array.getElem?_eq_none h'] at hlf; cases hlf
  have hSi : listed.getD i false = false := by rw [Array.getD_eq_getD_getElem?, hlf]; rfl
  obtain ⟨r, hr⟩ : ∃ r, recs[i]? = some r := ⟨_, List.getElem?_eq_getElem (by rw [D.len, ← hsz]; exact hil)⟩
  obtain ⟨o', ho', hd, htoldA, htoldB⟩ := hT i r hr
  rw [ho] at ho'; cases ho'
  have opOf : ∀ (k : Nat) (rk : Rec), recs[k]? = some rk → ∃ ok, ops[k]? = some ok ∧ rk.dst = ok.dst := fun k rk hk => by
   obtain ⟨ok, h1, h2, _⟩ := hT k rk hk; exact ⟨ok, h1, h2⟩
  have ordc : ∀ (k : Nat), k ≠ i → (ordB (masks ops.toList []) k i = true ∨ ordB (masks ops.toList []) i k = true) → (∃ ok, ops[k]? = some ok) → listed.getD k false = decide (k < i) := by
   intro k hki hk ⟨ok, hok⟩
   rcases hk with hk | hk
   ·unfold ordB at hk
    simp only [Bool.and_eq_true, decide_eq_true_eq] at hk
    rw [ord_done hc i k o ho hpre hk.2]
    simp [hk.1]
   ·unfold ordB at hk
    simp only [Bool.and_eq_true, decide_eq_true_eq] at hk
    cases hS : listed.getD k false with
    | false => simp; omega
    | true =>
     have := ord_done hc k i ok hok (hc k ok hok hS) hk.2
     rw [hSi] at this; cases this
  have hcan : (recs.take i).foldl Rec.app st0 = foldS (fun k => decide (k < i)) recs 0 st0 := by
   have := foldS_take recs i 0 st0
   simp only [Nat.zero_add] at this
   exact this.symm
  rw [hcan] at htoldA htoldB
  obtain ⟨lt1, lh1⟩ := foldS_len (fun k => listed.getD k false) recs 0 st0 hids
  obtain ⟨lt2, lh2⟩ := foldS_len (fun k => decide (k < i)) recs 0 st0 hids
  have tag : ∀ d, d ∈ o.looksAt ops → (foldS (fun k => listed.getD k false) recs 0 st0).t[d]? = (foldS (fun k => decide (k < i)) recs 0 st0).t[d]? := by
   intro d hdl
   refine foldS_t _ _ d recs 0 st0 st0 rfl rfl (fun k rk hk hkd => ?_)
   rw [Nat.zero_add]
   by_cases hki : k = i
   ·subst hki; simp only [hSi]; simp
   ·obtain ⟨ok, hok, hkd'⟩ := opOf k rk hk
    rcases D.pair k i ok o rk r hki hok ho hk hr with h1 | h1 | ⟨h1, _⟩
    ·exact ordc k hki (.inl h1) ⟨ok, hok⟩
    ·exact ordc k hki (.inr h1) ⟨ok, hok⟩
    ·exact absurd hdl (h1 d (by rw [← hkd']; exact hkd))
  have evag : ∀ x ∈ o.op.operands, ev (foldS (fun k => listed.getD k false) recs 0 st0).t x = ev (foldS (fun k => decide (k < i)) recs 0 st0).t x := by
   intro x hx
   cases x with
   | tmp d =>
    have := tag d (List.mem_append_left _ (List.mem_filterMap.2 ⟨.tmp d, by simpa using hx, rfl⟩))
    simp only [ev, List.getD_eq_getElem?_getD, this]
   | _ => rfl
  have hag : ∀ q ∈ r.rd, (foldS (fun k => listed.getD k false) recs 0 st0).h[q]? = (foldS (fun k => decide (k < i)) recs 0 st0).h[q]? := by
   intro q hq
   refine foldS_h _ _ q recs 0 st0 st0 rfl hids rfl (fun k rk hk hkq => ?_)
   rw [Nat.zero_add]
   by_cases hki : k = i
   ·subst hki; simp only [hSi]; simp
   ·obtain ⟨ok, hok, _⟩ := opOf k rk hk
    rcases D.pair k i ok o rk r hki hok ho hk hr with h1 | h1 | ⟨_, h1⟩
    ·exact ordc k hki (.inl h1) ⟨ok, hok⟩
    ·exact ordc k hki (.inr h1) ⟨ok, hok⟩
    ·exact absurd hq (h1 q hkq).1
  have hfresh : freshO (foldS (fun k => listed.getD k false) recs 0 st0).h (base + i) := by
   right
   have nil : ∀ (rs : List Rec) (k : Nat) (s : St), foldS (fun _ => false) rs k s = s := by
    intro rs
    induction rs with
    | nil => intro k s; rfl
    | cons r rs ih => intro k s; simp only [foldS, Bool.false_eq_true, if_false]; exact ih _ _
   rw [foldS_h (fun k => listed.getD k false) (fun _ => false) (base + i) recs 0 st0 st0 rfl hids rfl (fun k rk hk hkq => by
    rw [Nat.zero_add]
    by_cases hki : k = i
    ·subst hki; exact hSi
    ·obtain ⟨ok, hok, _⟩ := opOf k rk hk
     rcases D.idbase k rk hk _ hkq (by omega) with h1 | h1
     ·exact absurd (by omega) hki
     ·rw [show base + i - base = i by omega] at h1
      have := ordc k hki (.inr h1) ⟨ok, hok⟩
      rw [this]
      unfold ordB at h1
      simp only [Bool.and_eq_true, decide_eq_true_eq] at h1
      simp; omega), nil]
   exact hrs i (by omega)
  have heq := foldS_put (S := fun k => listed.getD k false) (S' := fun k => (listed.setIfInBounds i true).getD k false) (st0 := st0) hr hSi (by simp [hil]) (fun k hk => getD_set_ne false (fun e => hk e.symm)) hids
   (fun k rk d hk hkd hrd => by
    by_cases hki : k = i
    ·exact hki
    ·obtain ⟨ok, hok, hkd'⟩ := opOf k rk hk
     exact absurd (by rw [← hd]; exact hrd) (D.dst k i ok o d hki hok ho (by rw [← hkd']; exact hkd)))
   (fun k rk q hk hkq hrq hik => by
    have hki : k ≠ i := by omega
    obtain ⟨ok, hok, _⟩ := opOf k rk hk
    rcases D.pair k i ok o rk r hki hok ho hk hr with h1 | h1 | ⟨_, h1⟩
    ·unfold ordB at h1
     simp only [Bool.and_eq_true, decide_eq_true_eq] at h1
     omega
    ·have := ordc k hki (.inr h1) ⟨ok, hok⟩
     rw [this]; simp; omega
    ·exact absurd hrq (h1 q hkq).2)
  have hcl : closed ops (fun k => (listed.setIfInBounds i true).getD k false) := by
   intro j oj hj hSj e he hbd
   by_cases hji : j = i
   ·subst hji
    rw [ho] at hj; cases hj
    exact getD_set_true (hpre e he hbd)
   ·have : listed.getD j false = true := by
     have h1 := getD_set_ne (listed := listed) false (fun e => hji e.symm : i ≠ j)
     exact h1.symm.trans hSj
    exact getD_set_true (hc j oj hj this e he hbd)
  have next : (∀ i0 x, pn = some (i0, x) → i0 ≠ i) → ∀ (a' : Act) (w' : World), Rep P ext w0 own0 (Rec.app (foldS (fun k => listed.getD k false) recs 0 st0) r) a' w' → wpAny P .any ops Q fuel (listed.setIfInBounds i true) a' w' := by
   intro hne a' w' R'
   rw [← heq] at R'
   exact ih _ a' w' (by have := left_set hil hlf; omega) (by simpa using hsz) hcl (fun i0 x e => (getD_set_ne false (fun e' => hne i0 x e e'.symm)).trans (hpn i0 x e)) R'
  have grd : ∀ (j : Nat) (want b : Bool) (d : Tmp), o.guard = some (j, want) → (ops[j]?).bind (·.dst) = some d → (foldS (fun k => decide (k < i)) recs 0 st0).t.getD d .und = .one (.kb b) → yielded ops a.tmps j = some b := by
   intro j want b d hg hjd hv
   have hdl : d ∈ o.looksAt ops := by
    unfold Oper.looksAt
    rw [hg]
    simp [hjd]
   have ht := tag d hdl
   rw [List.getD_eq_getElem?_getD, ← ht] at hv
   obtain ⟨locs, H, RTm⟩ := R.repT
   cases hq : (foldS (fun k => listed.getD k false) recs 0 st0).t[d]? with
   | none => rw [hq] at hv; cases hv
   | some x =>
    rw [hq] at hv
    simp only [Option.getD_some] at hv
    subst hv
    obtain ⟨u, hu, hra⟩ := RTm d _ hq
    cases hra
    unfold yielded
    rw [hjd]
    simp [hu]
  have grdU : ∀ (j : Nat) (want : Bool) (d : Tmp), o.guard = some (j, want) → (ops[j]?).bind (·.dst) = some d → (foldS (fun k => decide (k < i)) recs 0 st0).t.getD d .und = .tup [] → yielded ops a.tmps j = none := by
   intro j want d hg hjd hv
   have hdl : d ∈ o.looksAt ops := by
    unfold Oper.looksAt
    rw [hg]
    simp [hjd]
   have ht := tag d hdl
   rw [List.getD_eq_getElem?_getD, ← ht] at hv
   obtain ⟨locs, H, RTm⟩ := R.repT
   cases hq : (foldS (fun k => listed.getD k false) recs 0 st0).t[d]? with
   | none => rw [hq] at hv; cases hv
   | some x =>
    rw [hq] at hv
    simp only [Option.getD_some] at hv
    subst hv
    obtain ⟨u, hu, vs, rfl, _, _⟩ := RTm d _ hq
    unfold yielded
    rw [hjd]
    simp [hu]
  have wnt : (∀ j want d, o.guard = some (j, want) → (ops[j]?).bind (·.dst) = some d → (foldS (fun k => decide (k < i)) recs 0 st0).t.getD d .und = .one (.kb want)) → (∀ j want, o.guard = some (j, want) → ∃ d, (ops[j]?).bind (·.dst) = some d) → Region.wanted o (yielded ops a.tmps) = true := by
   intro hg1 hg2
   unfold Region.wanted
   cases hg : o.guard with
   | none => rfl
   | some gw =>
    obtain ⟨j, want⟩ := gw
    obtain ⟨d, hjd⟩ := hg2 j want hg
    have := grd j want want d hg hjd (hg1 j want d hg hjd)
    simp only
    rw [this]
    simp
  unfold wpOp
  simp only [ho]
  cases hsk : skipB ops pn i with
  | true =>
   cases hq : pn with
   | none => rw [hq] at hsk; cases hsk
   | some q =>
    obtain ⟨i0, x⟩ := q
    by_cases e : i0 = i
    ·subst e
     obtain ⟨hx, hg1, hg2⟩ := htoldB x hq
     rw [if_pos (wnt hg1 hg2)]
     left
     exact hx ext w0 own0 _ _ a w _ Q (by rw [lt1, lt2]) evag hag R (fun v w' R' => hX i0 x hq _ v a w' R')
    ·exfalso
     rw [hq] at hsk
     simp only [skipB, Bool.or_eq_true, beq_iff_eq, e, false_or] at hsk
     unfold ordB at hsk
     simp only [Bool.and_eq_true, decide_eq_true_eq] at hsk
     have h1 := ord_done hc i i0 o ho hpre hsk.2
     rw [hpn i0 x hq] at h1
     cases h1
  | false =>
  have hne : ∀ i0 x, pn = some (i0, x) → i0 ≠ i := fun i0 x hq e => by
   rw [hq] at hsk
   simp [skipB, e] at hsk
  obtain ⟨_, htold⟩ := htoldA hsk
  rcases htold with ⟨hk, hg1, hg2⟩ | ⟨hv, hwr, hrd, j, want, d, hg, hjd, hgv⟩
  ·rw [if_pos (wnt hg1 hg2)]
   left
   refine Oper.wp_mono (fun a' w' R' => next hne a' w' ?_) (hk ext w0 own0 _ _ a w Q (by rw [lt1, lt2]) evag hag hfresh R)
   have : Rec.app (foldS (fun k => listed.getD k false) recs 0 st0) r = ⟨putT (foldS (fun k => listed.getD k false) recs 0 st0).t o.dst r.v, putOs (foldS (fun k => listed.getD k false) recs 0 st0).h r.wr⟩ := by rw [← hd]; rfl
   rw [this]; exact R'
  ·have hw : Region.wanted o (yielded ops a.tmps) = false := by
    unfold Region.wanted
    rw [hg]
    simp only
    rcases hgv with hgv | hgv
    ·rw [grd j want (!want) d hg hjd hgv]
     cases want <;> rfl
    ·rw [grdU j want d hg hjd hgv]
     rfl
   rw [if_neg (by rw [hw]; simp)]
   refine next hne _ w ?_
   have := R.skipped o.dst
   have e1 : Rec.app (foldS (fun k => listed.getD k false) recs 0 st0) r = ⟨putT (foldS (fun k => listed.getD k false) recs 0 st0).t o.dst (.tup []), (foldS (fun k => listed.getD k false) recs 0 st0).h⟩ := by
    unfold Rec.app
    rw [hd, hv, hwr]
    rfl
   rw [e1]; exact this
end
theorem lastOb_mem {o : Nat} {ob : Ob} : ∀ {wr : List (Nat × Ob)}, lastOb o wr = some ob → (o, ob) ∈ wr
 | [], h => by cases h
 | (k, x) :: r, h => by
  simp only [lastOb] at h
  split at h
  ·rename_i y hy
   cases h
   exact List.mem_cons_of_mem _ (lastOb_mem hy)
  ·split at h
   ·cases h; subst_vars; simp
   ·cases h
theorem foldS_mem {S : Nat → Bool} {o : Nat} {ob : Ob} : ∀ (rs : List Rec) (k : Nat) (st : St), (∀ r ∈ rs, ∀ o ∈ r.ids, o < st.h.length) → (foldS S rs k st).h[o]? = some ob → st.h[o]? = some ob ∨ ∃ r ∈ rs, (o, ob) ∈ r.wr
 | [], k, st, _, h => .inl h
 | r :: rs, k, st, hi, h => by
  simp only [foldS] at h
  have ha := (app_len (st := st) (hi r (by simp))).2
  split at h
  ·rcases foldS_mem rs (k + 1) _ (fun r' hr' q hq => by rw [ha]; exact hi r' (by simp [hr']) q hq) h with h1 | ⟨r', h1, h2⟩
   ·simp only [Rec.app] at h1
    rw [putOs_get _ _ (hi r (by simp))] at h1
    split at h1
    ·rename_i x hx
     cases h1
     exact .inr ⟨r, by simp, lastOb_mem hx⟩
    ·exact .inl h1
   ·exact .inr ⟨r', by simp [h1], h2⟩
  ·rcases foldS_mem rs (k + 1) st (fun r' hr' q hq => hi r' (by simp [hr']) q hq) h with h1 | ⟨r', h1, h2⟩
   ·exact .inl h1
   ·exact .inr ⟨r', by simp [h1], h2⟩
theorem shO_eq {a b : Ob} (h : shB a = shB b) : shO a = shO b := by
 have hm : ∀ cs : List AV, (cs.map fun _ => AV.und) = List.replicate cs.length AV.und := fun cs => by
  rw [List.eq_replicate_iff]
  exact ⟨by simp, fun x hx => by simp at hx; exact hx.2.symm⟩
 cases a <;> cases b <;> first | rfl | (simp only [shB] at h; cases h; done) | skip
 simp only [shB, Option.some.injEq, Prod.mk.injEq] at h
 simp only [shO, h.1, hm, h.2]
theorem RepH.less {P : Program} {ext : Nat → Prop} {w0 : World} {own0 : Own0} {locs : Locs} {h h' : List Ob} {w : World} (H : RepH P ext w0 own0 locs h w) (hl : h'.length = h.length) (hp : ∀ (o : Nat) (ob : Ob), h'[o]? = some ob → ob = .no ∨ h[o]? = some ob) :
  RepH P ext w0 own0 locs h' w ∧ Later w (Bar ext locs h) w (Bar ext locs h') := by
 have hlv : ∀ (o : Nat) (ob : Ob), h'[o]? = some ob → ob.live = true → h[o]? = some ob := fun o ob ho hl => by
  rcases hp o ob ho with rfl | h1
  ·cases hl
  ·exact h1
 have hown : ∀ b, ownB locs h' b → ownB locs h b := by
  rintro b ⟨o, l, d, ob, h1, h2, h3⟩
  exact ⟨o, l, d, ob, hlv o ob h1 h2, h2, h3⟩
 have lt : Later w (Bar ext locs h) w (Bar ext locs h') := ⟨fun _ _ _ => rfl, fun b _ hb => hb.elim .inl (fun hb => .inr (hown b hb))⟩
 refine ⟨⟨fun o ho => H.len o (by omega), fun o ob ho => ?_, fun o o' l l' ob ob' d d' hne ho ho' h1 h2 => H.apart o o' l l' ob ob' d d' hne (hlv o ob ho h1) (hlv o' ob' ho' h2) h1 h2, fun b hb ho => H.extOwn b hb (hown b ho), H.extlt, fun b hb ho => H.ownOld b hb (hown b ho), H.since, H.base, H.pins, H.ownlt⟩, lt⟩
 rcases hp o ob ho with rfl | h1
 ·exact .inl rfl
 ·rcases H.ob o ob h1 with h2 | h2 | ⟨l, h2, h3⟩
  ·exact .inl h2
  ·exact .inr (.inl h2)
  ·exact .inr (.inr ⟨l, h2, h3.later lt (fun _ _ h => h) (fun _ _ _ => rfl) (fun _ _ _ => rfl)⟩)
theorem undD_get (ops : Array Oper) (t : List TV) (d : Nat) : (undD ops t)[d]? = (t[d]?).map fun v => if ops.toList.any (fun o => o.dst == some d) = true then .und else v := by
 simp only [undD, List.getElem?_map, List.getElem?_zipIdx]
 cases t[d]? <;> simp
theorem pan_weak {P : Program} {ops : Array Oper} {recs : List Rec} {st : St} {ext : Nat → Prop} {w0 : World} {own0 : Own0} (hids : ∀ r ∈ recs, ∀ o ∈ r.ids, o < st.h.length + ops.size) (hds : ∀ r ∈ recs, ∃ o ∈ ops.toList, r.dst = o.dst)
  (hok : okPan st.h.length st.h recs = true) (S : Nat → Bool) {x : TV} {a : Act} {w : World} (R : Rep P ext w0 own0 ⟨(foldS S recs 0 ⟨st.t, st.h ++ List.replicate ops.size .rs⟩).t ++ [x], shH (foldS S recs 0 ⟨st.t, st.h ++ List.replicate ops.size .rs⟩).h⟩ a w) :
  Rep P ext w0 own0 ⟨(panSt ops st).t ++ [x], (panSt ops st).h⟩ a w := by
 obtain ⟨locs, H, RTm⟩ := R.repT
 have hids' : ∀ r ∈ recs, ∀ o ∈ r.ids, o < (⟨st.t, st.h ++ List.replicate ops.size .rs⟩ : St).h.length := fun r hr o ho => by simpa using hids r hr o ho
 obtain ⟨l1, l2⟩ := foldS_len S recs 0 ⟨st.t, st.h ++ List.replicate ops.size .rs⟩ hids'
 simp only at l1
 simp only [List.length_append, List.length_replicate] at l2
 obtain ⟨H1, lt⟩ := H.less (h' := (panSt ops st).h) (by simp [panSt, shH_len, l2]) (fun o ob ho => by
  simp only [panSt] at ho
  by_cases hlt : o < st.h.length
  ·rw [List.getElem?_append_left (by rw [shH_len]; exact hlt), shH_get, List.getElem?_eq_getElem hlt] at ho
   cases ho
   right
   simp only
   rw [shH_get]
   have hlt2 : o < (foldS S recs 0 ⟨st.t, st.h ++ List.replicate ops.size .rs⟩).h.length := by rw [l2]; omega
   rw [List.getElem?_eq_getElem hlt2]
   simp only [Option.map_some, Option.some.injEq]
   rcases foldS_mem (S := S) recs 0 _ hids' (List.getElem?_eq_getElem hlt2) with h1 | ⟨r, h1, h2⟩
   ·simp only at h1
    rw [List.getElem?_append_left hlt, List.getElem?_eq_getElem hlt] at h1
    exact congrArg shO (Option.some.inj h1).symm
   ·unfold okPan at hok
    have h3 := List.all_eq_true.1 (List.all_eq_true.1 hok r h1) _ h2
    simp only [Bool.or_eq_true, decide_eq_true_eq, beq_iff_eq] at h3
    rcases h3 with h3 | h3
    ·omega
    ·rw [shO_eq h3]
     simp [getO, List.getD_eq_getElem?_getD, List.getElem?_eq_getElem hlt]
  ·rw [List.getElem?_append_right (by rw [shH_len]; omega), List.getElem?_replicate] at ho
   split at ho
   ·cases ho; exact .inl rfl
   ·cases ho)
 refine ⟨R.defers, by rw [R.size]; simp [panSt, undD, l1], locs, H1, fun i y hy => ?_⟩
 have hfl : (foldS S recs 0 ⟨st.t, st.h ++ List.replicate ops.size .rs⟩).t.length = (undD ops st.t).length := by rw [l1]; simp [undD]
 simp only [panSt] at hy
 by_cases hi : i < (undD ops st.t).length
 ·rw [List.getElem?_append_left hi, undD_get, Option.map_eq_some_iff] at hy
  obtain ⟨z, hz, rfl⟩ := hy
  have hi2 : i < (foldS S recs 0 ⟨st.t, st.h ++ List.replicate ops.size .rs⟩).t.length := by omega
  split
  ·obtain ⟨u, hu, _⟩ := RTm i _ (by simp only; rw [List.getElem?_append_left hi2]; exact List.getElem?_eq_getElem hi2)
   exact ⟨u, hu, trivial⟩
  ·rename_i hany
   have nil : ∀ (rs : List Rec) (k : Nat) (s : St), foldS (fun _ => false) rs k s = s := by
    intro rs
    induction rs with
    | nil => intro k s; rfl
    | cons r rs ih => intro k s; simp only [foldS, Bool.false_eq_true, if_false]; exact ih _ _
   have h1 := foldS_t S (fun _ => false) i recs 0 ⟨st.t, st.h ++ List.replicate ops.size .rs⟩ ⟨st.t, st.h ++ List.replicate ops.size .rs⟩ rfl rfl (fun k r hk hd => by
    exfalso
    obtain ⟨o, ho, hdo⟩ := hds r (List.mem_of_getElem? hk)
    refine hany (List.any_eq_true.2 ⟨o, ho, ?_⟩)
    rw [← hdo, hd]; simp)
   rw [nil] at h1
   simp only at h1
   obtain ⟨u, hu, hr⟩ := RTm i z (by simp only; rw [List.getElem?_append_left hi2, h1]; exact hz)
   exact ⟨u, hu, hr.later lt (fun _ _ h => h)⟩
 ·rw [List.getElem?_append_right (by omega)] at hy
  obtain ⟨u, hu, hr⟩ := RTm i y (by simp only; rw [List.getElem?_append_right (by omega), hfl]; exact hy)
  exact ⟨u, hu, hr.later lt (fun _ _ h => h)⟩
theorem trDraw_ok {P : Program} {M : Mode} {ops : Array Oper} {k : St → Prop} {st : St} (h : trDraw P M ops k st) (hm : P.follows .mixedOrders = true) {ext : Nat → Prop} {w0 : World} {own0 : Own0} {Q : Exit → Act → World → Prop} (hQ : ∀ st a w, k st → Rep P ext w0 own0 st a w → Q .normal a w)
  (hX : PanQ P M ext w0 own0 Q) {a : Act} {w : World} (R : Rep P ext w0 own0 st a w) (id : Nat) : (Code.region id ops true).wp P Q a w := by
 refine wp_region_any hm ?_
 unfold trDraw at h
 obtain ⟨recs, pn, hl, hk, hkx, _, hpn, hT⟩ := trDr_out _ _ _ _ List.nodup_range (by simp) h
 simp only [List.nil_append, List.length_range] at hk hkx hl
 have hlt : ∀ (i : Nat) (r : Rec), recs[i]? = some r → i < ops.size := fun i r hr => by
  rw [← hl]
  exact (List.getElem?_eq_some_iff.1 hr).1
 have hD : ∃ (_ : DrawOK ops st.h.length recs), (∀ i0 x, pn = some (i0, x) → okPan st.h.length st.h recs = true ∧ M.kp x (panSt ops st)) := by
  cases hq : pn with
  | none =>
   have h1 := hk hq
   split at h1
   ·rename_i hok
    exact ⟨okDraw_spec hok, by simp⟩
   ·exact h1.elim
  | some q =>
   obtain ⟨i0, x⟩ := q
   have h1 := hkx i0 x hq
   split at h1
   ·rename_i hok
    simp only [Bool.and_eq_true] at hok
    exact ⟨okDraw_spec hok.1, fun i1 x1 e => by cases e; exact ⟨hok.2, h1⟩⟩
   ·exact h1.elim
 obtain ⟨D, hP⟩ := hD
 refine draw_any (ext := ext) (w0 := w0) (own0 := own0) (st0 := ⟨st.t, st.h ++ List.replicate ops.size .rs⟩) pn D (by simp) (fun i hi => ?_) (fun i r hr => hT i i r (by simp [hlt i r hr]) hr) (fun i0 x e => ?_) (fun e a w R => ?_) (fun i0 x e S v a w R => ?_) ops.size _ a _ ?_ (by simp) ?_ ?_ ?_
 ·rw [List.getElem?_append_right (by simp)]
  simp [hi]
 ·rcases hpn _ e with h1 | h1
  ·cases h1
  ·simpa using h1
 ·have h1 := hk e
  split at h1
  ·exact hQ _ a w h1 R
  ·exact h1.elim
 ·obtain ⟨h1, h2⟩ := hP i0 x e
  refine hX x (panSt ops st) v a w h2 (pan_weak (fun r hr o ho => ?_) (fun r hr => ?_) h1 S R)
  ·obtain ⟨i, hi, hir⟩ := List.getElem_of_mem hr
   exact D.idlt i r (by rw [← hir]; exact List.getElem?_eq_getElem hi) o ho
  ·obtain ⟨i, hi, hir⟩ := List.getElem_of_mem hr
   have hr' : recs[i]? = some r := by rw [← hir]; exact List.getElem?_eq_getElem hi
   obtain ⟨o, ho, hd, _⟩ := hT i i r (by simp [hlt i r hr']) hr'
   exact ⟨o, by simpa using List.mem_of_getElem? (show ops.toList[i]? = some o by simpa using ho), hd⟩
 ·unfold left
  simp
 ·intro j o _ hS
  exfalso
  by_cases hj : j < ops.size
  ·simp [hj] at hS
  ·simp [hj] at hS
 ·intro i0 x _
  by_cases hj : i0 < ops.size
  ·simp [hj]
  ·simp [hj]
 ·have nil : ∀ (rs : List Rec) (k : Nat) (s : St), foldS (fun i => (Array.replicate ops.size false).getD i false) rs k s = s := by
   intro rs
   induction rs with
   | nil => intro k s; rfl
   | cons r rs ih =>
    intro k s
    simp only [foldS]
    rw [if_neg (by
     by_cases hj : k < ops.size
     ·simp [hj]
     ·simp [hj])]
    exact ih _ _
  rw [nil]
  exact drew_rep (res_rep R _)
end
section
def forget (live : Nat) : Nat → List TV → List TV
 | _, [] => []
 | i, v :: r => (if live.testBit i then v else .und) :: forget live (i + 1) r
theorem forget_get (live : Nat) : ∀ (l : List TV) (k i : Nat), (forget live k l).length = l.length ∧ ∀ x, (forget live k l)[i]? = some x → ∃ y, l[i]? = some y ∧ (x = y ∨ x = .und)
 | [], k, i => ⟨rfl, fun x h => by cases h⟩
 | v :: r, k, i => by
  obtain ⟨h1, _⟩ := forget_get live r (k + 1) 0
  refine ⟨by simp [forget, h1], fun x hx => ?_⟩
  cases i with
  | zero =>
   simp only [forget] at hx
   cases hx
   exact ⟨v, rfl, by split; exact .inl rfl; exact .inr rfl⟩
  | succ i => exact (forget_get live r (k + 1) i).2 x hx
def PinLt (own0 : Own0) (n : Nat) : Prop := ∀ (o : Nat) (x : Loc), own0.pin o = some x → o < n
def gc (n : Nat) (st : St) : St :=
 let ids := idsH st.h (st.h.length + n) 0 (idsT st.t (List.range n))
 if ids.Nodup ∧ ids.take n = List.range n then ⟨st.t.map (reT ids), ids.map fun o => reO ids (getO st.h o)⟩ else st
theorem take_range {ids : List Nat} {n o : Nat} (h : ids.take n = List.range n) (ho : o < n) : ids[o]? = some o := by
 have : (ids.take n)[o]? = some o := by rw [h]; simp [ho]
 rw [List.getElem?_take] at this
 simpa [ho] using this
theorem gc_ok {P : Program} {ext : Nat → Prop} {w0 : World} {own0 : Own0} {st : St} {a : Act} {w : World} {n : Nat} (hp : PinLt own0 n) (R : Rep P ext w0 own0 st a w) : Rep P ext w0 own0 (gc n st) a w := by
 unfold gc
 simp only
 split
 ·rename_i hn
  obtain ⟨locs, H, RTm⟩ := R.repT
  obtain ⟨H', lt⟩ := reH_ok H hn.1 (fun o x hx => take_range hn.2 (hp o x hx))
  refine ⟨R.defers, by simpa using R.size, _, H', fun i x hx => ?_⟩
  simp only [List.getElem?_map, Option.map_eq_some_iff] at hx
  obtain ⟨y, hy, rfl⟩ := hx
  obtain ⟨u, hu, hr⟩ := RTm i y hy
  exact ⟨u, hu, reT_ok (hr.later lt (fun _ _ h => h))⟩
 ·exact R
theorem forget_ok {P : Program} {ext : Nat → Prop} {w0 : World} {own0 : Own0} {st : St} {a : Act} {w : World} (live : Nat) (R : Rep P ext w0 own0 st a w) : Rep P ext w0 own0 ⟨forget live 0 st.t, st.h⟩ a w := by
 obtain ⟨locs, H, RTm⟩ := R.repT
 refine ⟨R.defers, by rw [R.size]; exact (forget_get live st.t 0 0).1.symm, locs, H, fun i x hx => ?_⟩
 obtain ⟨y, hy, hxy⟩ := (forget_get live st.t 0 i).2 x hx
 obtain ⟨u, hu, hr⟩ := RTm i y hy
 refine ⟨u, hu, ?_⟩
 rcases hxy with rfl | rfl
 ·exact hr
 ·trivial
def nslC (n : Nat) : List AV → List AV × List Ob
 | [] => ([], [])
 | .nsl sz :: r => let (a, b) := nslC (n + 1) r; (.ofl sz n :: a, .f 0 sz [] :: b)
 | x :: r => let (a, b) := nslC n r; (x :: a, b)
def nslT (n : Nat) : List TV → List TV × List Ob
 | [] => ([], [])
 | .one (.nsl sz) :: r => let (a, b) := nslT (n + 1) r; (.one (.ofl sz n) :: a, .f 0 sz [] :: b)
 | x :: r => let (a, b) := nslT n r; (x :: a, b)
def nslH (n : Nat) : List Ob → List Ob × List Ob
 | [] => ([], [])
 | .g gt cs :: r => let (c, b) := nslC n cs; let (a, b') := nslH (n + b.length) r; (.g gt c :: a, b ++ b')
 | x :: r => let (a, b) := nslH n r; (x :: a, b)
def nslOwn (st : St) : St :=
 let (t, b) := nslT st.h.length st.t
 let (h, b') := nslH (st.h.length + b.length) st.h
 ⟨t, h ++ (b ++ b')⟩
def isE (bs : List Ob) : Prop := ∀ ob ∈ bs, ∃ sz, ob = .f 0 sz []
def locE (base : Nat) (bs : List Ob) (locs : Locs) : Locs := ⟨fun o =>
 if o < base then locs o else match bs[o - base]? with
  | some (.f _ sz _) => some ⟨none, 0, sz, 0⟩
  | _ => none, fun o b => o < base ∧ locs.own o b⟩
theorem locE_own {base : Nat} {bs : List Ob} {locs : Locs} {o : Nat} (h : o < base) : (locE base bs locs).own o = locs.own o := by
 funext b; exact propext ⟨fun h => h.2, fun h' => ⟨h, h'⟩⟩
theorem locE_hs {base : Nat} {bs : List Ob} {locs : Locs} {o : Nat} (h : o < base) {l : Loc} {d : Addr} : (locE base bs locs).hs o l d ↔ locs.hs o l d := by unfold Locs.hs; rw [locE_own h]
theorem locE_no {base : Nat} {bs : List Ob} {locs : Locs} {o : Nat} (h : ¬ o < base) {l : Loc} {d : Addr} (hd : (locE base bs locs).hs o l d) : l.a = some d := hd.elim id (fun h' => absurd h'.1 h)
theorem nslC_ok (n : Nat) : ∀ (cs : List AV) (n : Nat), (nslC n cs).1.length = cs.length ∧ isE (nslC n cs).2 ∧
  ∀ (j : Nat) (x : AV), (nslC n cs).1[j]? = some x → ∃ y, cs[j]? = some y ∧ (x = y ∨ ∃ sz k, y = .nsl sz ∧ x = .ofl sz (n + k) ∧ (nslC n cs).2[k]? = some (.f 0 sz []))
 | [], n => ⟨rfl, fun _ h => (by cases h), by simp [nslC]⟩
 | c :: r, n => by
  have key : (∃ sz, c = .nsl sz ∧ nslC n (c :: r) = (.ofl sz n :: (nslC (n + 1) r).1, .f 0 sz [] :: (nslC (n + 1) r).2)) ∨ nslC n (c :: r) = (c :: (nslC n r).1, (nslC n r).2) := by
   cases c <;> first | exact .inl ⟨_, rfl, rfl⟩ | exact .inr rfl
  rcases key with ⟨sz, rfl, e⟩ | e
  ·obtain ⟨h1, h2, h3⟩ := nslC_ok n r (n + 1)
   rw [e]
   refine ⟨by simp [h1], fun ob hm => ?_, fun j x hx => ?_⟩
   ·cases hm with
    | head => exact ⟨sz, rfl⟩
    | tail _ hm => exact h2 ob hm
   ·cases j with
    | zero => cases hx; exact ⟨_, rfl, .inr ⟨sz, 0, rfl, rfl, rfl⟩⟩
    | succ j =>
     obtain ⟨y, hy, hxy⟩ := h3 j x hx
     refine ⟨y, hy, ?_⟩
     rcases hxy with hxy | ⟨sz', k, h4, h5, h6⟩
     ·exact .inl hxy
     ·exact .inr ⟨sz', k + 1, h4, by rw [h5]; congr 1; omega, h6⟩
  ·obtain ⟨h1, h2, h3⟩ := nslC_ok n r n
   rw [e]
   refine ⟨by simp [h1], h2, fun j x hx => ?_⟩
   cases j with
   | zero => cases hx; exact ⟨_, rfl, .inl rfl⟩
   | succ j => exact h3 j x hx
theorem nslT_ok : ∀ (ts : List TV) (n : Nat), (nslT n ts).1.length = ts.length ∧ isE (nslT n ts).2 ∧
  ∀ (j : Nat) (x : TV), (nslT n ts).1[j]? = some x → ∃ y, ts[j]? = some y ∧ (x = y ∨ ∃ sz k, y = .one (.nsl sz) ∧ x = .one (.ofl sz (n + k)) ∧ (nslT n ts).2[k]? = some (.f 0 sz []))
 | [], n => ⟨rfl, fun _ h => (by cases h), by simp [nslT]⟩
 | c :: r, n => by
  have key : (∃ sz, c = .one (.nsl sz) ∧ nslT n (c :: r) = (.one (.ofl sz n) :: (nslT (n + 1) r).1, .f 0 sz [] :: (nslT (n + 1) r).2)) ∨ nslT n (c :: r) = (c :: (nslT n r).1, (nslT n r).2) := by
   cases c with
   | one a => cases a <;> first | exact .inl ⟨_, rfl, rfl⟩ | exact .inr rfl
   | _ => exact .inr rfl
  rcases key with ⟨sz, rfl, e⟩ | e
  ·obtain ⟨h1, h2, h3⟩ := nslT_ok r (n + 1)
   rw [e]
   refine ⟨by simp [h1], fun ob hm => ?_, fun j x hx => ?_⟩
   ·cases hm with
    | head => exact ⟨sz, rfl⟩
    | tail _ hm => exact h2 ob hm
   ·cases j with
    | zero => cases hx; exact ⟨_, rfl, .inr ⟨sz, 0, rfl, rfl, rfl⟩⟩
    | succ j =>
     obtain ⟨y, hy, hxy⟩ := h3 j x hx
     refine ⟨y, hy, ?_⟩
     rcases hxy with hxy | ⟨sz', k, h4, h5, h6⟩
     ·exact .inl hxy
     ·exact .inr ⟨sz', k + 1, h4, by rw [h5]; congr 2; omega, h6⟩
  ·obtain ⟨h1, h2, h3⟩ := nslT_ok r n
   rw [e]
   refine ⟨by simp [h1], h2, fun j x hx => ?_⟩
   cases j with
   | zero => cases hx; exact ⟨_, rfl, .inl rfl⟩
   | succ j => exact h3 j x hx
theorem nslH_ok : ∀ (h : List Ob) (n : Nat), (nslH n h).1.length = h.length ∧ isE (nslH n h).2 ∧
  ∀ (o : Nat) (ob : Ob), (nslH n h).1[o]? = some ob → ∃ ob0, h[o]? = some ob0 ∧ (ob = ob0 ∨ ∃ gt cs cs', ob0 = .g gt cs ∧ ob = .g gt cs' ∧ cs'.length = cs.length ∧
   ∀ (j : Nat) (x : AV), cs'[j]? = some x → ∃ y, cs[j]? = some y ∧ (x = y ∨ ∃ sz k, y = .nsl sz ∧ x = .ofl sz (n + k) ∧ (nslH n h).2[k]? = some (.f 0 sz [])))
 | [], n => ⟨rfl, fun _ h => (by cases h), by simp [nslH]⟩
 | c :: r, n => by
  have key : (∃ gt cs, c = .g gt cs ∧ nslH n (c :: r) = (.g gt (nslC n cs).1 :: (nslH (n + (nslC n cs).2.length) r).1, (nslC n cs).2 ++ (nslH (n + (nslC n cs).2.length) r).2)) ∨ nslH n (c :: r) = (c :: (nslH n r).1, (nslH n r).2) := by
   cases c <;> first | exact .inl ⟨_, _, rfl, rfl⟩ | exact .inr rfl
  rcases key with ⟨gt, cs, rfl, e⟩ | e
  ·obtain ⟨h1, h2, h3⟩ := nslH_ok r (n + (nslC n cs).2.length)
   obtain ⟨g1, g2, g3⟩ := nslC_ok n cs n
   rw [e]
   refine ⟨by simp [h1], fun ob hm => ?_, fun o ob ho => ?_⟩
   ·rcases List.mem_append.1 hm with hm | hm
    ·exact g2 ob hm
    ·exact h2 ob hm
   ·cases o with
    | zero =>
     cases ho
     refine ⟨_, rfl, .inr ⟨gt, cs, _, rfl, rfl, g1, fun j x hx => ?_⟩⟩
     obtain ⟨y, hy, hxy⟩ := g3 j x hx
     refine ⟨y, hy, ?_⟩
     rcases hxy with hxy | ⟨sz, k, h4, h5, h6⟩
     ·exact .inl hxy
     ·refine .inr ⟨sz, k, h4, h5, ?_⟩
      rw [List.getElem?_append_left]
      ·exact h6
      ·rcases Nat.lt_or_ge k (nslC n cs).2.length with h' | h'
       ·exact h'
       ·rw [List.getElem?_eq_none h'] at h6; cases h6
    | succ o =>
     obtain ⟨ob0, h4, h5⟩ := h3 o ob ho
     refine ⟨ob0, h4, ?_⟩
     rcases h5 with h5 | ⟨gt0, cs0, cs', h5, h6, h7, h8⟩
     ·exact .inl h5
     ·refine .inr ⟨gt0, cs0, cs', h5, h6, h7, fun j x hx => ?_⟩
      obtain ⟨y, hy, hxy⟩ := h8 j x hx
      refine ⟨y, hy, ?_⟩
      rcases hxy with hxy | ⟨sz, k, i1, i2, i3⟩
      ·exact .inl hxy
      ·refine .inr ⟨sz, (nslC n cs).2.length + k, i1, by rw [i2]; congr 1; omega, ?_⟩
       rw [List.getElem?_append_right (by omega), show (nslC n cs).2.length + k - (nslC n cs).2.length = k by omega]
       exact i3
  ·obtain ⟨h1, h2, h3⟩ := nslH_ok r n
   rw [e]
   refine ⟨by simp [h1], h2, fun o ob ho => ?_⟩
   cases o with
   | zero => cases ho; exact ⟨_, rfl, .inl rfl⟩
   | succ o => exact h3 o ob ho
theorem nslOwn_ok {P : Program} {ext : Nat → Prop} {w0 : World} {own0 : Own0} {st : St} {a : Act} {w : World} (R : Rep P ext w0 own0 st a w) : Rep P ext w0 own0 (nslOwn st) a w := by
 obtain ⟨locs, H, RTm⟩ := R.repT
 obtain ⟨t1, t2, t3⟩ := nslT_ok st.t st.h.length
 obtain ⟨g1, g2, g3⟩ := nslH_ok st.h (st.h.length + (nslT st.h.length st.t).2.length)
 unfold nslOwn
 simp only
 generalize hbt : (nslT st.h.length st.t).2 = bt at t2 t3 g1 g2 g3
 generalize hbh : (nslH (st.h.length + bt.length) st.h).2 = bh at g2 g3
 generalize hh' : (nslH (st.h.length + bt.length) st.h).1 = h' at g1 g3
 have hE : isE (bt ++ bh) := fun ob hm => (List.mem_append.1 hm).elim (t2 ob) (g2 ob)
 have hbs : ∀ (k : Nat) (ob : Ob), (h' ++ (bt ++ bh))[k]? = some ob → (k < st.h.length ∧ h'[k]? = some ob) ∨ (st.h.length ≤ k ∧ ∃ sz, ob = .f 0 sz [] ∧ locE st.h.length (bt ++ bh) locs k = some ⟨none, 0, sz, 0⟩) := by
  intro k ob hk
  by_cases hlt : k < st.h.length
  ·rw [List.getElem?_append_left (by omega)] at hk
   exact .inl ⟨hlt, hk⟩
  ·rw [List.getElem?_append_right (by omega), g1] at hk
   obtain ⟨sz, rfl⟩ := hE ob (List.mem_of_getElem? hk)
   exact .inr ⟨by omega, sz, rfl, by simp only [locE, if_neg hlt, hk]⟩
 have hlo : ∀ (o : Nat), o < st.h.length → locE st.h.length (bt ++ bh) locs o = locs o := fun o ho => by simp only [locE, if_pos ho]
 have hmono : ∀ (o : Nat) (x : Loc), locs o = some x → locE st.h.length (bt ++ bh) locs o = some x := by
  intro o x hx
  have : o < st.h.length := by
   rcases Nat.lt_or_ge o st.h.length with h' | h'
   ·exact h'
   ·rw [H.len o h'] at hx; cases hx
  rw [hlo o this]; exact hx
 have hlive : ∀ (k : Nat) (ob : Ob) (l : Loc) (d : Addr), (h' ++ (bt ++ bh))[k]? = some ob → ob.live = true → locE st.h.length (bt ++ bh) locs k = some l → (locE st.h.length (bt ++ bh) locs).hs k l d → ∃ ob0, st.h[k]? = some ob0 ∧ ob0.live = true ∧ locs k = some l ∧ locs.hs k l d := by
  intro k ob l d hk hlv hl hd
  rcases hbs k ob hk with ⟨h1, h2⟩ | ⟨h1, sz, rfl, h3⟩
  ·obtain ⟨ob0, h3, h4⟩ := g3 k ob h2
   refine ⟨ob0, h3, ?_, by rw [hlo k h1] at hl; exact hl, (locE_hs h1).1 hd⟩
   rcases h4 with rfl | ⟨gt, cs, cs', rfl, rfl, _⟩
   ·exact hlv
   ·rfl
  ·have hd := locE_no (by omega) hd
   rw [h3] at hl; cases hl; cases hd
 have hown : ∀ b, ownB (locE st.h.length (bt ++ bh) locs) (h' ++ (bt ++ bh)) b → ownB locs st.h b := by
  rintro b ⟨k, l, d, ob, h1, h2, h3, h4, rfl⟩
  obtain ⟨ob0, h5, h6, h7, h8⟩ := hlive k ob l d h1 h2 h3 h4
  exact ⟨k, l, d, ob0, h5, h6, h7, h8, rfl⟩
 have lt : Later w (Bar ext locs st.h) w (Bar ext (locE st.h.length (bt ++ bh) locs) (h' ++ (bt ++ bh))) := ⟨fun _ _ _ => rfl, fun b _ hb => hb.elim .inl (fun hb => .inr (hown b hb))⟩
 have newRA : ∀ {sz k : Nat} {v : Value}, (∃ a, v = .slice a 0 0) → (bt ++ bh)[k]? = some (.f 0 sz []) → RA w (Bar ext (locE st.h.length (bt ++ bh) locs) (h' ++ (bt ++ bh))) (locE st.h.length (bt ++ bh) locs) (.ofl sz (st.h.length + k)) v := by
  rintro sz k v ⟨a, rfl⟩ hk
  refine ⟨⟨none, 0, sz, 0⟩, a, 0, ?_, rfl, rfl, Nat.le_refl _, Nat.le_refl _, .inl rfl⟩
  simp only [locE, if_neg (show ¬ st.h.length + k < st.h.length by omega), show st.h.length + k - st.h.length = k by omega, hk]
 refine ⟨R.defers, by rw [R.size]; exact t1.symm, locE st.h.length (bt ++ bh) locs, ⟨fun o ho => ?_, fun k ob hk => ?_, fun o o' l l' ob ob' d d' hne ho ho' hlv hlv' hl hl' hd hd' => ?_, fun b hb ho => H.extOwn b hb (hown b ho), H.extlt, fun b hb ho => H.ownOld b hb (hown b ho), H.since, H.base, fun o x hx => hmono o x (H.pins o x hx), fun o b hb => H.ownlt o b hb.2⟩, fun i x hx => ?_⟩
 ·simp only [List.length_append, g1] at ho
  simp only [locE, if_neg (show ¬ o < st.h.length by omega)]
  rw [List.getElem?_eq_none (by simp; omega)]
 ·rcases hbs k ob hk with ⟨h1, h2⟩ | ⟨h1, sz, rfl, h3⟩
  ·obtain ⟨ob0, h3, h4⟩ := g3 k ob h2
   rcases H.ob k ob0 h3 with h5 | ⟨h5, h6⟩ | ⟨l, h5, h6⟩
   ·rcases h4 with rfl | ⟨gt, cs, cs', h7, _⟩
    ·exact .inl h5
    ·rw [h7] at h5; cases h5
   ·rcases h4 with rfl | ⟨gt, cs, cs', h7, _⟩
    ·exact .inr (.inl ⟨h5, by rw [hlo k h1]; exact h6⟩)
    ·rw [h7] at h5; cases h5
   ·refine .inr (.inr ⟨l, by rw [hlo k h1]; exact h5, ?_⟩)
    have h7 := h6.later lt hmono (fun _ _ _ => rfl) (fun _ _ _ => rfl)
    rw [locE_own h1]
    rcases h4 with rfl | ⟨gt, cs, cs', rfl, rfl, h8, h9⟩
    ·exact h7
    ·obtain ⟨i1, b, c, i2, i3, i4, i5⟩ := h7
     refine ⟨⟨by rw [i1.1, h8], i1.2⟩, b, c, i2, i3, by rw [i4, h8], fun j x hx => ?_⟩
     obtain ⟨y, hy, hxy⟩ := h9 j x hx
     obtain ⟨u, hu, hr⟩ := i5 j y hy
     refine ⟨u, hu, ?_⟩
     rcases hxy with rfl | ⟨sz, q, rfl, rfl, hq⟩
     ·exact hr
     ·rw [Nat.add_assoc]
      exact newRA hr (by rw [List.getElem?_append_right (by omega), show bt.length + q - bt.length = q by omega]; exact hq)
  ·exact .inr (.inr ⟨_, h3, rfl, rfl, .inl ⟨rfl, rfl, rfl⟩⟩)
 ·obtain ⟨ob0, h2, h3, h4, h5⟩ := hlive o ob l d ho hlv hl hd
  obtain ⟨ob0', h2', h3', h4', h5'⟩ := hlive o' ob' l' d' ho' hlv' hl' hd'
  exact H.apart o o' l l' ob0 ob0' d d' hne h2 h2' h3 h3' h4 h4' h5 h5'
 ·obtain ⟨y, hy, hxy⟩ := t3 i x hx
  obtain ⟨u, hu, hr⟩ := RTm i y hy
  refine ⟨u, hu, ?_⟩
  rcases hxy with rfl | ⟨sz, k, rfl, rfl, hk⟩
  ·exact hr.later lt hmono
  ·exact newRA hr (by
    rw [List.getElem?_append_left]
    ·exact hk
    ·rcases Nat.lt_or_ge k bt.length with h' | h'
     ·exact h'
     ·rw [List.getElem?_eq_none h'] at hk; cases hk)
structure Keep where
 live : Nat
 fz : Nat
 cells : List (Nat × Nat)
 raw : Bool := false
 cut : Bool := false
def frzSl (h : List Ob) (fz : Nat) : Nat → List TV → List TV
 | _, [] => []
 | i, v :: r => (if fz.testBit i then (match frzTO h v with | some (x, _) => x | none => v) else v) :: frzSl h fz (i + 1) r
def rdSl (h : List Ob) (fz : Nat) : Nat → List TV → List Nat
 | _, [] => []
 | i, v :: r => (if fz.testBit i then (match frzTO h v with | some (_, rd) => rd | none => []) else []) ++ rdSl h fz (i + 1) r
def rdCl (h : List Ob) : List (Nat × Nat) → List Nat
 | [] => []
 | (o, j) :: r => (match getO h o with
  | .g gt cs => (match frzA h (cs.getD j .und) with | some (_, rd) => rd | none => [])
  | _ => []) ++ rdCl h r
def frzC (h : List Ob) (l : List (Nat × Nat)) (o : Nat) : Nat → List AV → List AV
 | _, [] => []
 | j, a :: r => (if l.contains (o, j) then (match frzA h a with | some (x, _) => .fz x | none => a) else a) :: frzC h l o (j + 1) r
def frzH (h : List Ob) (l : List (Nat × Nat)) : Nat → List Ob → List Ob
 | _, [] => []
 | o, .g gt cs :: r => .g gt (frzC h l o 0 cs) :: frzH h l (o + 1) r
 | o, ob :: r => ob :: frzH h l (o + 1) r
def keepV (k : Keep) (st : St) : St :=
 let rd := rdSl st.h k.fz 0 st.t ++ rdCl st.h k.cells
 ⟨frzSl st.h k.fz 0 st.t, frzH st.h k.cells 0 (putOs st.h (zs st.h rd))⟩
theorem frzSl_get (h : List Ob) (fz : Nat) : ∀ (l : List TV) (k i : Nat), (frzSl h fz k l).length = l.length ∧ ∀ x, (frzSl h fz k l)[i]? = some x → ∃ y, l[i]? = some y ∧ (x = y ∨ ∃ rd, frzTO h y = some (x, rd) ∧ ∀ q ∈ rd, q ∈ rdSl h fz k l)
 | [], k, i => ⟨rfl, fun x h => by cases h⟩
 | v :: r, k, i => by
  obtain ⟨h1, _⟩ := frzSl_get h fz r (k + 1) 0
  refine ⟨by simp [frzSl, h1], fun x hx => ?_⟩
  cases i with
  | zero =>
   simp only [frzSl] at hx
   cases hx
   refine ⟨v, rfl, ?_⟩
   by_cases hb : fz.testBit k = true
   ·rw [if_pos hb]
    cases hf : frzTO h v with
    | none => exact .inl rfl
    | some p =>
     obtain ⟨x, rd⟩ := p
     exact .inr ⟨rd, rfl, fun q hq => by simp only [rdSl, if_pos hb, hf]; exact List.mem_append_left _ hq⟩
   ·rw [if_neg hb]; exact .inl rfl
  | succ i =>
   obtain ⟨y, hy, hxy⟩ := (frzSl_get h fz r (k + 1) i).2 x hx
   refine ⟨y, hy, ?_⟩
   rcases hxy with hxy | ⟨rd, h2, h3⟩
   ·exact .inl hxy
   ·exact .inr ⟨rd, h2, fun q hq => by simp only [rdSl]; exact List.mem_append_right _ (h3 q hq)⟩
theorem frzC_get (h : List Ob) (l : List (Nat × Nat)) (o : Nat) : ∀ (cs : List AV) (k i : Nat), (frzC h l o k cs).length = cs.length ∧ ∀ x, (frzC h l o k cs)[i]? = some x → ∃ y, cs[i]? = some y ∧ (x = y ∨ ∃ v rd, x = .fz v ∧ frzA h y = some (v, rd) ∧ (o, k + i) ∈ l)
 | [], k, i => ⟨rfl, fun x h => by cases h⟩
 | v :: r, k, i => by
  obtain ⟨h1, _⟩ := frzC_get h l o r (k + 1) 0
  refine ⟨by simp [frzC, h1], fun x hx => ?_⟩
  cases i with
  | zero =>
   simp only [frzC] at hx
   cases hx
   refine ⟨v, rfl, ?_⟩
   by_cases hb : l.contains (o, k) = true
   ·rw [if_pos hb]
    cases hf : frzA h v with
    | none => exact .inl rfl
    | some p => exact .inr ⟨_, _, rfl, rfl, by simpa using hb⟩
   ·rw [if_neg hb]; exact .inl rfl
  | succ i =>
   obtain ⟨y, hy, hxy⟩ := (frzC_get h l o r (k + 1) i).2 x hx
   refine ⟨y, hy, ?_⟩
   rcases hxy with hxy | ⟨v, rd, h2, h3, h4⟩
   ·exact .inl hxy
   ·exact .inr ⟨v, rd, h2, h3, by rw [show k + (i + 1) = k + 1 + i by omega]; exact h4⟩
theorem frzH_get (h : List Ob) (l : List (Nat × Nat)) : ∀ (bs : List Ob) (k i : Nat), (frzH h l k bs).length = bs.length ∧ ∀ x, (frzH h l k bs)[i]? = some x → ∃ y, bs[i]? = some y ∧ (x = y ∨ ∃ gt cs, y = .g gt cs ∧ x = .g gt (frzC h l (k + i) 0 cs))
 | [], k, i => ⟨rfl, fun x h => by cases h⟩
 | b :: r, k, i => by
  obtain ⟨h1, _⟩ := frzH_get h l r (k + 1) 0
  refine ⟨by cases b <;> simp [frzH, h1], fun x hx => ?_⟩
  cases i with
  | zero =>
   cases b with
   | g gt cs => simp only [frzH] at hx; cases hx; exact ⟨_, rfl, .inr ⟨gt, cs, rfl, rfl⟩⟩
   | _ => simp only [frzH] at hx; cases hx; exact ⟨_, rfl, .inl rfl⟩
  | succ i =>
   have e : (frzH h l k (b :: r))[i + 1]? = (frzH h l (k + 1) r)[i]? := by cases b <;> rfl
   rw [e] at hx
   obtain ⟨y, hy, hxy⟩ := (frzH_get h l r (k + 1) i).2 x hx
   refine ⟨y, hy, ?_⟩
   rcases hxy with hxy | ⟨gt, cs, h2, h3⟩
   ·exact .inl hxy
   ·exact .inr ⟨gt, cs, h2, by rw [h3, show k + 1 + i = k + (i + 1) by omega]⟩
theorem rdCl_mem {h : List Ob} {o j : Nat} {gt : TypeId} {cs : List AV} {v : FV} {rd : List Nat} (ho : h[o]? = some (.g gt cs)) (hf : frzA h (cs.getD j .und) = some (v, rd)) : ∀ {l : List (Nat × Nat)}, (o, j) ∈ l → ∀ q ∈ rd, q ∈ rdCl h l
 | (o', j') :: l, hm, q, hq => by
  simp only [rdCl]
  cases hm with
  | head =>
   refine List.mem_append_left _ ?_
   have : getO h o = .g gt cs := by simp [getO, List.getD_eq_getElem?_getD, ho]
   rw [this]
   simp only [hf]
   exact hq
  | tail _ hm => exact List.mem_append_right _ (rdCl_mem ho hf hm q hq)
theorem keepV_ok {P : Program} {ext : Nat → Prop} {w0 : World} {own0 : Own0} {st : St} {a : Act} {w : World} (k : Keep) (R : Rep P ext w0 own0 st a w) : Rep P ext w0 own0 (keepV k st) a w := by
 obtain ⟨locs, H, RTm⟩ := R.repT
 unfold keepV
 simp only
 generalize hrd : rdSl st.h k.fz 0 st.t ++ rdCl st.h k.cells = rd
 obtain ⟨H1, lt1, hlen1, hz⟩ := zs_ok rd H
 have hgs : ∀ (rd : List Nat) (h : List Ob) (o : Nat) (gt : TypeId) (cs : List AV), (putOs h (zs h rd))[o]? = some (.g gt cs) → h[o]? = some (.g gt cs) := by
  intro rd
  induction rd with
  | nil => intro h o gt cs hh; exact hh
  | cons q r ih =>
   intro h o gt cs hh
   unfold zs at hh
   split at hh
   ·rename_i z hg
    have ho : h[q]? = some (getO h q) := getO_some rfl (frzOb_ne hg).1
    simp only [putOs, putO_lt ho] at hh
    have := ih _ o gt cs hh
    rw [set_get ho] at this
    split at this
    ·obtain ⟨sz, es, rfl, _⟩ := frzOb_some hg
     cases this
    ·exact this
   ·exact ih _ o gt cs hh
 have hget := fun (o : Nat) (ob : Ob) (ho : (frzH st.h k.cells 0 (putOs st.h (zs st.h rd)))[o]? = some ob) => (frzH_get st.h k.cells (putOs st.h (zs st.h rd)) 0 o).2 ob ho
 have hlive : ∀ (o : Nat) (ob : Ob), (frzH st.h k.cells 0 (putOs st.h (zs st.h rd)))[o]? = some ob → ob.live = true → ∃ ob0, (putOs st.h (zs st.h rd))[o]? = some ob0 ∧ ob0.live = true := by
  intro o ob ho hlv
  obtain ⟨y, hy, hxy⟩ := hget o ob ho
  refine ⟨y, hy, ?_⟩
  rcases hxy with rfl | ⟨gt, cs, rfl, rfl⟩
  ·exact hlv
  ·rfl
 have hown : ∀ b, ownB locs (frzH st.h k.cells 0 (putOs st.h (zs st.h rd))) b → ownB locs (putOs st.h (zs st.h rd)) b := by
  rintro b ⟨o, l, d, ob, h1, h2, h3, h4, rfl⟩
  obtain ⟨ob0, h5, h6⟩ := hlive o ob h1 h2
  exact ⟨o, l, d, ob0, h5, h6, h3, h4, rfl⟩
 have lt2 : Later w (Bar ext locs (putOs st.h (zs st.h rd))) w (Bar ext locs (frzH st.h k.cells 0 (putOs st.h (zs st.h rd)))) := ⟨fun _ _ _ => rfl, fun b _ hb => hb.elim .inl (fun hb => .inr (hown b hb))⟩
 have hfl := (frzH_get st.h k.cells (putOs st.h (zs st.h rd)) 0 0).1
 refine ⟨R.defers, by rw [R.size]; exact (frzSl_get st.h k.fz st.t 0 0).1.symm, locs, ⟨fun o ho => H1.len o (by simp only at ho; omega), fun o ob ho => ?_, fun o o' l l' ob ob' d d' hne ho ho' hlv hlv' hl hl' hd hd' => ?_, fun b hb ho => H1.extOwn b hb (hown b ho), H1.extlt, fun b hb ho => H1.ownOld b hb (hown b ho), H1.since, H1.base, H1.pins, H1.ownlt⟩, fun i x hx => ?_⟩
 ·obtain ⟨y, hy, hxy⟩ := hget o ob ho
  rcases H1.ob o y hy with h5 | ⟨h5, h6⟩ | ⟨l, h5, h6⟩
  ·rcases hxy with rfl | ⟨gt, cs, rfl, _⟩
   ·exact .inl h5
   ·cases h5
  ·rcases hxy with rfl | ⟨gt, cs, rfl, _⟩
   ·exact .inr (.inl ⟨h5, h6⟩)
   ·cases h5
  ·refine .inr (.inr ⟨l, h5, ?_⟩)
   have h7 := h6.later lt2 (fun _ _ h => h) (fun _ _ _ => rfl) (fun _ _ _ => rfl)
   rcases hxy with rfl | ⟨gt, cs, rfl, rfl⟩
   ·exact h7
   ·obtain ⟨i1, b, c, i2, i3, i4, i5⟩ := h7
    have hfc := frzC_get st.h k.cells (0 + o) cs 0
    refine ⟨⟨by rw [i1.1, (hfc 0).1], i1.2⟩, b, c, i2, i3, by rw [i4, (hfc 0).1], fun j x hx => ?_⟩
    obtain ⟨y', hy', hxy'⟩ := (hfc j).2 x hx
    obtain ⟨u, hu, hr⟩ := i5 j y' hy'
    refine ⟨u, hu, ?_⟩
    rcases hxy' with rfl | ⟨v, rd', rfl, hf, hm⟩
    ·exact hr
    ·have ho0 := hgs rd st.h o gt cs hy
     obtain ⟨l0, hl0, hob0⟩ := H.get ho0 (by simp) (by simp)
     obtain ⟨_, b0, c0, q2, q3, q4, q5⟩ := hob0
     rw [h5] at hl0; cases hl0
     rw [i2] at q2; cases q2
     rw [i3] at q3; cases q3
     obtain ⟨u', hu', hr'⟩ := q5 j y' hy'
     rw [hu] at hu'; cases hu'
     simp only [Nat.zero_add] at hm
     have := frzA_ok (rd := rd) hf (fun q hq => by
      rw [← hrd]
      refine List.mem_append_right _ (rdCl_mem (j := j) ho0 (by rw [List.getD_eq_getElem?_getD, hy']; exact hf) hm q hq)) H hr'
     exact RF.later lt2 this
 ·obtain ⟨ob0, h2, h3⟩ := hlive o ob ho hlv
  obtain ⟨ob0', h2', h3'⟩ := hlive o' ob' ho' hlv'
  exact H1.apart o o' l l' ob0 ob0' d d' hne h2 h2' h3 h3' hl hl' hd hd'
 ·obtain ⟨y, hy, hxy⟩ := (frzSl_get st.h k.fz st.t 0 i).2 x hx
  obtain ⟨u, hu, hr⟩ := RTm i y hy
  refine ⟨u, hu, ?_⟩
  rcases hxy with rfl | ⟨rd', hf, hm⟩
  ·exact (hr.later lt1 (fun _ _ h => h)).later lt2 (fun _ _ h => h)
  ·exact (frzTO_ok (rd := rd) H hf (fun q hq => by rw [← hrd]; exact List.mem_append_left _ (hm q hq)) hr locs).later lt2 (fun _ _ h => h)
def norm (n : Nat) (k : Keep) (st : St) : St :=
 match k.raw with
 | true => gc n (keepV k (gc n ⟨forget k.live 0 st.t, st.h⟩))
 | false => gc n (nslOwn (keepV k (gc n ⟨forget k.live 0 st.t, st.h⟩)))
theorem norm_ok {P : Program} {ext : Nat → Prop} {w0 : World} {own0 : Own0} {st : St} {a : Act} {w : World} (k : Keep) {n : Nat} (hp : PinLt own0 n) (R : Rep P ext w0 own0 st a w) : Rep P ext w0 own0 (norm n k st) a w := by
 unfold norm
 split
 ·exact gc_ok hp (keepV_ok k (gc_ok hp (forget_ok k.live R)))
 ·exact gc_ok hp (nslOwn_ok (keepV_ok k (gc_ok hp (forget_ok k.live R))))
end
section
abbrev SP := St → Prop
def QK (P : Program) (M : Mode) (ext : Nat → Prop) (w0 : World) (own0 : Own0) (kn : SP) (ke : Nat → SP) (kr : SP) : Exit → Act → World → Prop
 | .normal, a, w => ∃ st, kn st ∧ Rep P ext w0 own0 st a w
 | .exit i, a, w => ∃ st, ke i st ∧ Rep P ext w0 own0 st a w
 | .ret, a, w => ∃ st, kr st ∧ Rep P ext w0 own0 st a w
 | .panic ch, a, w => ∃ v x st, ch = [{ v, recovered := false }] ∧ M.kp x st ∧ Rep P ext w0 own0 ⟨st.t ++ [.one (.fz x)], st.h⟩ { a with tmps := a.tmps.push v } w
 | _, _, _ => False
theorem QK_pan (P : Program) (M : Mode) (ext : Nat → Prop) (w0 : World) (own0 : Own0) (kn : SP) (ke : Nat → SP) (kr : SP) : PanQ P M ext w0 own0 (QK P M ext w0 own0 kn ke kr) := fun x st v a w hk R => ⟨v, x, st, rfl, hk, R⟩
def loopWp (P : Program) (c : Code) (Q : Exit → Act → World → Prop) (a : Act) (w : World) : Prop :=
 ∀ (b : Frame) (k : List Item) (cs : List Frame), ∃ e a' w', Q e a' w' ∧ Arrives P (lone (b.at a (.code c :: .inLoop c :: k)) cs w) b k cs e a' w'
theorem loopWp.code {P : Program} {c : Code} {Q : Exit → Act → World → Prop} {a : Act} {w : World} (h : loopWp P c Q a w) : (Code.loop c).wp P Q a w :=
 fun b k cs => let ⟨e, a', w', hq, harr⟩ := h b k cs; ⟨e, a', w', hq, .of_steps (.one step_loop) harr⟩
theorem loopWp.unroll {P : Program} {c : Code} {Q : Exit → Act → World → Prop} {a : Act} {w : World} (h : c.wp P (Exit.then (loopWp P c Q) Q) a w) : loopWp P c Q a w := by
 intro b k cs
 obtain ⟨e, a₁, w₁, hq, harr⟩ := h b (.inLoop c :: k) cs
 cases e with
 | normal =>
  obtain ⟨e₂, a₂, w₂, hq₂, harr₂⟩ := hq b k cs
  exact ⟨e₂, a₂, w₂, hq₂, .of_steps (Steps.trans harr (.one step_inLoop)) harr₂⟩
 | exit id => exact ⟨_, a₁, w₁, hq, .pass (x := .inLoop c) rfl (fun _ _ => .inl (by simp)) harr⟩
 | goto l => exact ⟨_, a₁, w₁, hq, .pass (x := .inLoop c) rfl (fun _ _ => .inl (by simp)) harr⟩
 | ret => exact ⟨_, a₁, w₁, hq, .pass (x := .inLoop c) rfl (fun _ _ => .inl (by simp)) harr⟩
 | panic ch => exact ⟨_, a₁, w₁, hq, .pass (x := .inLoop c) rfl (fun _ _ => .inl (by simp)) harr⟩
 | outgrown => exact ⟨_, a₁, w₁, hq, .pass (x := .inLoop c) rfl (fun _ _ => .inl (by simp)) harr⟩
def LoopJ (P : Program) (M : Mode) (c : Code) (ke : Nat → SP) (kr : SP) (st : St) : Prop :=
 ∀ (ext : Nat → Prop) (w0 : World) (own0 : Own0) (a : Act) (w : World), PinLt own0 M.pin → Rep P ext w0 own0 st a w → loopWp P c (QK P M ext w0 own0 (fun _ => False) ke kr) a w
def CutJ (P : Program) (M : Mode) (c : Code) (kn : SP) (ke : Nat → SP) (kr : SP) (st : St) : Prop :=
 ∀ (ext : Nat → Prop) (w0 : World) (own0 : Own0) (a : Act) (w : World), PinLt own0 M.pin → Rep P ext w0 own0 st a w → c.wp P (QK P M ext w0 own0 kn ke kr) a w
def cutK (P : Program) (M : Mode) (k : Keep) (c : Code) (kn : SP) (ke : Nat → SP) (kr : SP) (t : SP) : SP :=
 match k.cut with
 | true => fun st => CutJ P M c kn ke kr (norm M.pin k st)
 | false => t
def know (c : Operand) (b : Bool) (st : St) : St :=
 match c with
 | .tmp d => ⟨st.t.set d (.one (.kb b)), st.h⟩
 | _ => st
def condK (cl : Bool) (c : Operand) (yes no : SP) (st : St) : Prop :=
 match ev st.t c with
 | .one (.kb true) => yes st
 | .one (.kb false) => no st
 | .one (.fz (.bool b)) => splitB cl b (yes (know c true st)) (no (know c false st))
 | .one .ub => yes (know c true st) ∧ no (know c false st)
 | _ => False
def tr (P : Program) (M : Mode) (lv : List Nat → Keep) : List Nat → Code → SP → (Nat → SP) → SP → SP
 | _, .skip, kn, _, _ => kn
 | _, .region _ ops d, kn, _, _ => if d = true then trDraw P M ops kn else trOps P M ops kn (List.range ops.size)
 | p, .seq a b, kn, ke, kr => tr P M lv (0 :: p) a (tr P M lv (1 :: p) b kn ke kr) ke kr
 | p, .cond c a b, kn, ke, kr => condK M.cl c (tr P M lv (0 :: p) a kn ke kr) (cutK P M (lv (1 :: p)) b kn ke kr (tr P M lv (1 :: p) b kn ke kr))
 | p, .block id c, kn, ke, kr => tr P M lv (0 :: p) c kn (fun i => if i = id then kn else ke i) kr
 | p, .loop c, _, ke, kr => fun st => LoopJ P M c ke kr (norm M.pin (lv p) st)
 | _, .exit i, _, ke, _ => ke i
 | _, .ret, _, _, kr => kr
 | _, _, _, _, _ => fun _ => False
theorem condK_ok {P : Program} {cl : Bool} {c : Operand} {yes no : SP} {st : St} (h : condK cl c yes no st) {ext : Nat → Prop} {w0 : World} {own0 : Own0} {a : Act} {w : World} (R : Rep P ext w0 own0 st a w) :
  ∃ b, a.eval c = .bool b ∧ ∃ st', Rep P ext w0 own0 st' a w ∧ (if b = true then yes st' else no st') := by
 obtain ⟨locs, H, RTm⟩ := R.repT
 have hr := ev_rep RTm c
 have kn : ∀ b, a.eval c = .bool b → Rep P ext w0 own0 (know c b st) a w := by
  intro b hb
  cases c with
  | tmp d =>
   simp only [Act.eval] at hb
   have hd : a.tmps[d]? = some (.bool b) := by
    rw [Array.getD_eq_getD_getElem?] at hb
    cases hq : a.tmps[d]? with
    | none => rw [hq] at hb; cases hb
    | some v => rw [hq] at hb; simp only [Option.getD_some] at hb; rw [hb]
   exact Rep.refine (t := st.t) (h := st.h) R hd
  | _ => exact R
 unfold condK at h
 split at h
 ·rename_i hx
  rw [hx] at hr
  exact ⟨true, hr, st, R, h⟩
 ·rename_i hx
  rw [hx] at hr
  exact ⟨false, hr, st, R, h⟩
 ·rename_i b hx
  rw [hx] at hr
  have hb : a.eval c = .bool b := inv_bool (x := .one (.fz (.bool b))) rfl hr
  cases b with
  | true => exact ⟨true, hb, _, kn true hb, (splitB_ok h).1 rfl⟩
  | false => exact ⟨false, hb, _, kn false hb, (splitB_ok h).2 rfl⟩
 ·rename_i hx
  rw [hx] at hr
  obtain ⟨b, hb⟩ := hr
  cases b with
  | true => exact ⟨true, hb, _, kn true hb, h.1⟩
  | false => exact ⟨false, hb, _, kn false hb, h.2⟩
 ·exact h.elim
theorem tr_ok {P : Program} {M : Mode} {lv : List Nat → Keep} (hm : P.follows .mixedOrders = true) {ext : Nat → Prop} {w0 : World} {own0 : Own0} (hp : PinLt own0 M.pin) : ∀ (c : Code) (p : List Nat) (kn : SP) (ke : Nat → SP) (kr : SP) (st : St) (a : Act) (w : World),
  tr P M lv p c kn ke kr st → Rep P ext w0 own0 st a w → c.wp P (QK P M ext w0 own0 kn ke kr) a w := by
 intro c
 induction c with
 | skip => intro p kn ke kr st a w h R; exact wp_skip ⟨st, h, R⟩
 | region id ops d =>
  intro p kn ke kr st a w h R
  unfold tr at h
  cases d with
  | true =>
   rw [if_pos rfl] at h
   exact trDraw_ok h hm (fun st a w hk R => ⟨st, hk, R⟩) (QK_pan _ _ _ _ _ _ _ _) R id
  | false =>
   rw [if_neg (by simp)] at h
   exact wp_region (trOps_ok (fun st a w hk R => ⟨st, hk, R⟩) (QK_pan _ _ _ _ _ _ _ _) _ st a w h R)
 | seq x y ihx ihy =>
  intro p kn ke kr st a w h R
  refine wp_seq (wp_mono (ihx _ _ _ _ st a w h R) fun e a w hq => ?_)
  cases e with
  | normal => obtain ⟨st', h', R'⟩ := hq; exact ihy _ _ _ _ st' a w h' R'
  | _ => exact hq
 | cond c x y ihx ihy =>
  intro p kn ke kr st a w h R
  obtain ⟨b, hb, st', R', hif⟩ := condK_ok h R
  refine wp_cond hb ?_
  cases b with
  | true => exact ihx _ _ _ _ st' a w hif R'
  | false =>
   simp only [Bool.false_eq_true, if_false] at hif
   cases hcut : (lv (1 :: p)).cut with
   | true =>
    simp only [cutK, hcut] at hif
    exact hif ext w0 own0 a w hp (norm_ok _ hp R')
   | false =>
    simp only [cutK, hcut] at hif
    exact ihy _ _ _ _ st' a w hif R'
 | block id c ih =>
  intro p kn ke kr st a w h R
  refine wp_block (wp_mono (ih _ _ _ _ st a w h R) fun e a w hq => ?_)
  cases e with
  | exit i =>
   simp only [Exit.inBlock]
   obtain ⟨st', h', R'⟩ := hq
   split
   ·rename_i e; subst e; simp only [if_true] at h'; exact ⟨st', h', R'⟩
   ·rename_i e; simp only [e, if_false] at h'; exact ⟨st', h', R'⟩
  | _ => exact hq
 | loop c ih =>
  intro p kn ke kr st a w h R
  refine wp_mono (h ext w0 own0 a w hp (norm_ok _ hp R)).code fun e a w hq => ?_
  cases e with
  | normal => obtain ⟨st', h', _⟩ := hq; exact h'.elim
  | _ => exact hq
 | exit i => intro p kn ke kr st a w h R; exact wp_exit ⟨st, h, R⟩
 | ret => intro p kn ke kr st a w h R; exact wp_ret ⟨st, h, R⟩
 | _ => intros; rename_i h R; exact h.elim
theorem LoopJ.intro {P : Program} {M : Mode} {lv : List Nat → Keep} (hm : P.follows .mixedOrders = true) {c : Code} {ke : Nat → SP} {kr : SP} {st : St} (p : List Nat) (live : Keep) (h : tr P M lv p c (fun st' => LoopJ P M c ke kr (norm M.pin live st')) ke kr st) : LoopJ P M c ke kr st := by
 intro ext w0 own0 a w hp R
 refine loopWp.unroll (wp_mono (tr_ok hm hp c p _ _ _ st a w h R) fun e a w hq => ?_)
 cases e with
 | normal => obtain ⟨st', h', R'⟩ := hq; exact h' ext w0 own0 a w hp (norm_ok _ hp R')
 | _ => exact hq
def resVals (P : Program) (st : St) : List ResultVar → (List TV → Prop) → Prop
 | [], K => K []
 | .tmp t :: r, K => resVals P st r fun l => K (st.t.getD t .und :: l)
 | .cell a ty :: r, K => evLoad P ty (st.t.getD a .und) st.h fun v _ _ => resVals P st r fun l => K (v :: l)
def partT : TV → Option (Bool × List AV)
 | .one a => some (false, [a])
 | .agg cs => some (true, cs)
 | _ => none
def partTs : List TV → Option (List (Bool × List AV))
 | [] => some []
 | t :: r => match partT t with
  | some p => match partTs r with
   | some l => some (p :: l)
   | none => none
  | none => none
def nslP (n : Nat) : List (Bool × List AV) → List (Bool × List AV) × List Ob
 | [] => ([], [])
 | (b, cs) :: r => let (c, o) := nslC n cs; let (l, o') := nslP (n + o.length) r; ((b, c) :: l, o ++ o')
def resK (P : Program) (F : Func) (own : Option Nat) (R : TV → List Ob → Prop) (st : St) : Prop :=
 resVals P st F.results.toList fun vs =>
  match own with
  | some n =>
   match partTs (argsK P F.resultTypes.toList vs) with
   | some ps =>
    let q := nslP st.h.length ps
    let h := st.h ++ q.2
    let ids := idsH h (h.length + n) 0 (idsP q.1 (List.range n))
    if ids.Nodup ∧ ids.take n = List.range n then R (toTV (q.1.map fun p => (p.1, p.2.map (reA ids)))) (ids.map fun o => reO ids (getO h o)) else False
   | none => False
  | none =>
   match frzTOs st.h (argsK P F.resultTypes.toList vs) with
   | some (ags, _) =>
    match partTs ags with
    | some ps => R (toTV ps) []
    | none => False
   | none => False
def Mode.at (M : Mode) (own : Option Nat) : Mode := ⟨M.own, M.sig, own.getD 0, M.mp, M.kp, M.cl⟩
def trF (P : Program) (M : Mode) (lv : List Nat → Keep) (F : Func) (own : Option Nat) (args : List TV) (h : List Ob) (R : TV → List Ob → Prop) : Prop :=
 match F.body with
 | some c => tr P (M.at own) lv [] c (resK P F own R) (fun _ _ => False) (resK P F own R) ⟨args ++ List.replicate (F.ntmps - args.length) .und, h⟩
 | none => False
def walk (P : Program) (M : Mode) (lv : List Nat → Keep) : List Nat → List Nat → Code → SP → (Nat → SP) → SP → (List Nat → Code → SP → (Nat → SP) → SP → Prop) → Prop
 | [], p, c, kn, ke, kr, f => f p c kn ke kr
 | i :: q, p, .seq a b, kn, ke, kr, f => if i = 0 then walk P M lv q (0 :: p) a (tr P M lv (1 :: p) b kn ke kr) ke kr f else walk P M lv q (1 :: p) b kn ke kr f
 | i :: q, p, .cond c a b, kn, ke, kr, f => if i = 0 then walk P M lv q (0 :: p) a kn ke kr f else walk P M lv q (1 :: p) b kn ke kr f
 | i :: q, p, .block id c, kn, ke, kr, f => walk P M lv q (0 :: p) c kn (fun i => if i = id then kn else ke i) kr f
 | i :: q, p, .loop c, kn, ke, kr, f => walk P M lv q (0 :: p) c (fun st => LoopJ P M c ke kr (norm M.pin (lv p) st)) ke kr f
 | _, _, _, _, _, _, _ => False
def LoopAt (P : Program) (M : Mode) (lv : List Nat → Keep) (F : Func) (own : Option Nat) (R : TV → List Ob → Prop) (path : List Nat) (st : St) : Prop :=
 match F.body with
 | some c => walk P (M.at own) lv path [] c (resK P F own R) (fun _ _ => False) (resK P F own R) fun p c kn ke kr => match c with
  | .loop c => LoopJ P (M.at own) c ke kr st
  | _ => False
 | none => False
def Round (P : Program) (M : Mode) (lv : List Nat → Keep) (F : Func) (own : Option Nat) (R : TV → List Ob → Prop) (path : List Nat) (st : St) : Prop :=
 match F.body with
 | some c => walk P (M.at own) lv path [] c (resK P F own R) (fun _ _ => False) (resK P F own R) fun p c kn ke kr => match c with
  | .loop c => tr P (M.at own) lv (0 :: p) c (fun st' => LoopJ P (M.at own) c ke kr (norm (own.getD 0) (lv p) st')) ke kr st
  | _ => False
 | none => False
theorem walk_imp {P : Program} {M : Mode} {lv : List Nat → Keep} {f g : List Nat → Code → SP → (Nat → SP) → SP → Prop} (hfg : ∀ p c kn ke kr, f p c kn ke kr → g p c kn ke kr) : ∀ (q p : List Nat) (c : Code) (kn : SP) (ke : Nat → SP) (kr : SP), walk P M lv q p c kn ke kr f → walk P M lv q p c kn ke kr g
 | [], p, c, kn, ke, kr, h => by unfold walk at h ⊢; exact hfg _ _ _ _ _ h
 | i :: q, p, c, kn, ke, kr, h => by
  cases c <;> unfold walk at h ⊢ <;> try exact h
  ·split
   ·rw [if_pos ‹_›] at h; exact walk_imp hfg q _ _ _ _ _ h
   ·rw [if_neg ‹_›] at h; exact walk_imp hfg q _ _ _ _ _ h
  ·split
   ·rw [if_pos ‹_›] at h; exact walk_imp hfg q _ _ _ _ _ h
   ·rw [if_neg ‹_›] at h; exact walk_imp hfg q _ _ _ _ _ h
  ·exact walk_imp hfg q _ _ _ _ _ h
  ·exact walk_imp hfg q _ _ _ _ _ h
theorem LoopAt.intro {P : Program} {M : Mode} {lv : List Nat → Keep} {F : Func} {own : Option Nat} {R : TV → List Ob → Prop} {path : List Nat} {st : St} (hm : P.follows .mixedOrders = true) (h : Round P M lv F own R path st) : LoopAt P M lv F own R path st := by
 unfold Round at h
 unfold LoopAt
 split
 ·rename_i c hc
  rw [hc] at h
  refine walk_imp (fun p c kn ke kr h => ?_) path _ _ _ _ _ h
  cases c <;> first | exact LoopJ.intro (M := M.at own) hm _ _ h | exact h
 ·rename_i hc
  rw [hc] at h
  exact h
end
section
section
variable {P : Program} {ext : Nat → Prop} {w0 : World} {own0 : Own0} {locs : Locs} {h : List Ob} {w : World}
theorem evLoad_run {ty : TypeId} {x : TV} {K : OpK} (he : evLoad P ty x h K) (H : RepH P ext w0 own0 locs h w) {u : Value} (hu : RT w (Bar ext locs h) locs x u) :
  ∃ v wr rd, K v wr rd ∧ ∃ d, u = .pointer (some d) ∧ ∃ vc, (loadVar ty d).run P w = .ok vc w ∧ RT w (Bar ext locs h) locs v vc := by
 unfold evLoad at he
 split at he
 ·rename_i q e c ety
  obtain ⟨l', d, h1, h2, h3⟩ := hu
  split at he
  ·rename_i cs ho
   split at he
   ·rename_i he0
    subst he0
    obtain ⟨v, hk, hv⟩ := loadK_ok he
    have hq := getO_some ho (by simp)
    obtain ⟨l, hl, hs, b, cc, hla, hheap, hsz, hcell⟩ := H.get hq (by simp) (by simp)
    rw [hl] at h1; cases h1
    rw [hla] at h2; cases h2
    obtain ⟨vc, hrun, hr⟩ := hv w _ locs b 0 (fun j y hy => by obtain ⟨u, hu, hra⟩ := hcell j y hy; exact ⟨u, by simp [World.cell?, hheap, hu], hra⟩)
    refine ⟨v, _, _, hk, _, h3, vc, ?_, hr⟩
    simpa using hrun
   ·exact he.elim
  ·rename_i et sz es ho
   obtain ⟨cs, hcs, he⟩ := exC_out he
   obtain ⟨v, hk, hv⟩ := loadK_ok he
   have hq : h[q]? = some (.f et sz es) := getO_some ho (by simp)
   obtain ⟨l, hl, hs, hln, hlay⟩ := H.get hq (by simp) (by simp)
   rw [hl] at h1; cases h1
   rcases hlay with hlay | ⟨b, off, cc, ty', hla, hheap, het, hsz, hcap, hcell⟩
   ·rw [hlay.1] at hcs; simp at hcs
   ·rw [hla] at h2; cases h2
    obtain ⟨hcl, hcv⟩ := hcell e cs hcs
    obtain ⟨vc, hrun, hr⟩ := hv w _ locs b (off + e * sz) (fun j y hy => by
     obtain ⟨z, hz, rfl⟩ := map_fz hy
     obtain ⟨u, hu, hra⟩ := hcv j z hz; exact ⟨u, by simp [World.cell?, hheap, hu], hra⟩)
    refine ⟨v, _, _, hk, _, h3, vc, ?_, hr⟩
    rw [hs]; exact hrun
  ·rename_i sz es ho
   obtain ⟨cs, hcs, he⟩ : ∃ cs, es[e]? = some cs ∧ loadK P ty c (cs.map .fz) fun v => K v [] [q] := by
    split at he
    ·split at he
     ·exact ⟨_, rfl, he⟩
     ·exact he.elim
    ·exact exC_out he
   obtain ⟨v, hk, hv⟩ := loadK_ok he
   have hq : h[q]? = some (.z sz es) := getO_some ho (by simp)
   obtain ⟨l, hl, hs, hln, hlay⟩ := H.get hq (by simp) (by simp)
   rw [hl] at h1; cases h1
   rcases hlay with hlay | ⟨b, off, hla, hcell⟩
   ·rw [hlay] at hcs; simp at hcs
   ·rw [hla] at h2; cases h2
    obtain ⟨hcl, hcv⟩ := hcell e cs hcs
    obtain ⟨vc, hrun, hr⟩ := hv w _ locs b (off + e * sz) (fun j y hy => by
     obtain ⟨z, hz, rfl⟩ := map_fz hy
     obtain ⟨hn, u, hu, hra⟩ := hcv j z hz; exact ⟨u, hu, hra⟩)
    refine ⟨v, _, _, hk, _, h3, vc, ?_, hr⟩
    rw [hs]; exact hrun
  ·exact he.elim
 ·rename_i cs
  obtain ⟨v, hk, hv⟩ := loadK_ok he
  cases hu with
  | fp cs b off cvf hb hc hr0 =>
   obtain ⟨vc, hrun, hr⟩ := hv w _ locs b off (fun j y hy => by
    obtain ⟨z, hz, rfl⟩ := map_fz hy
    exact ⟨_, hc j z hz, hr0 j z hz⟩)
   exact ⟨v, _, _, hk, _, rfl, vc, by simpa using hrun, hr⟩
 ·exact he.elim
def resOne (tmps : Array Value) : ResultVar → Sem Value
 | .tmp t => pure (tmps.getD t undef)
 | .cell a t => do loadVar t (← asAddr (tmps.getD a undef))
theorem resVals_ok {t : List TV} {a : Act} (R : Rep P ext w0 own0 ⟨t, h⟩ a w) (H : RepH P ext w0 own0 locs h w) (RTm : RepT w (Bar ext locs h) locs t a) : ∀ (rs : List ResultVar) (K : List TV → Prop), resVals P ⟨t, h⟩ rs K →
  ∃ vs, K vs ∧ ∃ vals : List Value, (rs.mapM (resOne a.tmps)).run P w = .ok vals w ∧ vals.length = vs.length ∧ ∀ (i : Nat) (x : TV), vs[i]? = some x → ∃ v, vals[i]? = some v ∧ RT w (Bar ext locs h) locs x v
 | [], K, hk => ⟨[], hk, [], by simp, rfl, by simp⟩
 | .tmp d :: r, K, hk => by
  obtain ⟨vs, hk, vals, h1, h2, h3⟩ := resVals_ok R H RTm r _ hk
  have hr := ev_rep RTm (.tmp d)
  refine ⟨_, hk, a.tmps.getD d undef :: vals, by simp [List.mapM_cons, resOne, h1], by simp [h2], fun i x hx => ?_⟩
  cases i with
  | zero => cases hx; exact ⟨_, rfl, hr⟩
  | succ i => exact h3 i x hx
 | .cell d ty :: r, K, hk => by
  unfold resVals at hk
  obtain ⟨v, _, _, hk, ad, had, vc, hrun, hr⟩ := evLoad_run hk H (ev_rep RTm (.tmp d))
  obtain ⟨vs, hk, vals, h1, h2, h3⟩ := resVals_ok R H RTm r _ hk
  have had' : a.tmps.getD d undef = .pointer (some ad) := had
  refine ⟨_, hk, vc :: vals, ?_, by simp [h2], fun i x hx => ?_⟩
  ·rw [List.mapM_cons]
   simp only [Sem.run_bind, resOne, had', asAddr, Sem.run_pure, Result.andThen, hrun, h1]
  ·cases i with
   | zero => cases hx; exact ⟨_, rfl, hr⟩
   | succ i => exact h3 i x hx
def oneV : List Value → Value
 | [v] => v
 | vs => .tuple vs.toArray
theorem results_run {F : Func} {a : Act} {vals : List Value} (hr : (F.results.toList.mapM (resOne a.tmps)).run P w = .ok vals w) : (results F a.tmps).run P w = .ok (oneV vals) w := by
 have e : results F a.tmps = (do let vs ← F.results.mapM (resOne a.tmps); pure (if h : vs.size = 1 then vs[0] else .tuple vs)) := by
  unfold results
  congr 1
 rw [e, Array.mapM_eq_mapM_toList]
 simp only [Sem.run_bind, Sem.run_map, hr, Result.andThen, Sem.run_pure]
 match vals with
 | [] => rfl
 | [v] => rfl
 | v :: v' :: vs => rfl
end
theorem partTs_ok {w : World} {B : Nat → Prop} {locs : Locs} : ∀ {ts : List TV} {ps : List (Bool × List AV)}, partTs ts = some ps → ps.length = ts.length ∧
  ∀ (i : Nat) (b : Bool) (cs : List AV), ps[i]? = some (b, cs) → ∃ x, ts[i]? = some x ∧ ∀ v, RT w B locs x v → RC w B locs b cs v
 | [], ps, h => by cases h; exact ⟨rfl, by simp⟩
 | t :: r, ps, h => by
  unfold partTs at h
  split at h
  ·rename_i p hp
   split at h
   ·rename_i l hl
    cases h
    obtain ⟨h1, h2⟩ := partTs_ok hl
    refine ⟨by simp [h1], fun i b cs hi => ?_⟩
    cases i with
    | zero =>
     cases hi
     refine ⟨t, rfl, fun v hv => ?_⟩
     cases t with
     | one a => cases hp; exact ⟨[v], rfl, rfl, fun _ => rfl, fun j x hx => by
       cases j with
       | zero => cases hx; exact ⟨v, rfl, hv⟩
       | succ j => simp at hx⟩
     | agg cs => cases hp; exact hv
     | _ => cases hp
    | succ i => exact h2 i b cs hi
   ·cases h
  ·cases h
theorem toTV_val {w : World} {B : Nat → Prop} {locs : Locs} {ps : List (Bool × List AV)} {vals : List Value} (hl : vals.length = ps.length) (h : ∀ (i : Nat) (b : Bool) (cs : List AV), ps[i]? = some (b, cs) → ∃ v, vals[i]? = some v ∧ RC w B locs b cs v) :
  RT w B locs (toTV ps) (oneV vals) := by
 have tup : RT w B locs (.tup ps) (.tuple vals.toArray) := ⟨_, rfl, by simpa using hl, fun i b cs hi => by obtain ⟨v, hv, hr⟩ := h i b cs hi; exact ⟨v, by simpa using hv, hr⟩⟩
 cases ps with
 | nil =>
  cases vals with
  | nil => exact tup
  | cons _ _ => simp at hl
 | cons p ps =>
  cases vals with
  | nil => simp at hl
  | cons v vals =>
   obtain ⟨b, cs⟩ := p
   cases ps with
   | nil =>
    cases vals with
    | cons _ _ => simp at hl
    | nil =>
     obtain ⟨v', hv', hr⟩ := h 0 b cs rfl
     cases hv'
     cases b with
     | true => exact hr
     | false =>
      obtain ⟨vs, h1, h2, h3, h4⟩ := hr
      have h5 := h3 rfl
      obtain ⟨u, rfl⟩ := List.length_eq_one_iff.1 h5
      obtain ⟨a, rfl⟩ := List.length_eq_one_iff.1 h2.symm
      obtain ⟨u', hu', hra⟩ := h4 0 a rfl
      cases hu'
      subst h1
      exact hra
   | cons p' ps =>
    cases vals with
    | nil => simp at hl
    | cons v' vals =>
     have e1 : toTV ((b, cs) :: p' :: ps) = .tup ((b, cs) :: p' :: ps) := by rcases b with _ | _ <;> rcases cs with _ | ⟨_, _ | _⟩ <;> rfl
     rw [e1]; exact tup
section
variable {P : Program} {ext : Nat → Prop} {w0 : World} {own0 : Own0} {locs : Locs} {h : List Ob} {w : World}
theorem nslP_ok : ∀ (ps : List (Bool × List AV)) (n : Nat), (nslP n ps).1.length = ps.length ∧ isE (nslP n ps).2 ∧
  ∀ (i : Nat) (b : Bool) (cs' : List AV), (nslP n ps).1[i]? = some (b, cs') → ∃ cs, ps[i]? = some (b, cs) ∧ cs'.length = cs.length ∧
   ∀ (j : Nat) (x : AV), cs'[j]? = some x → ∃ y, cs[j]? = some y ∧ (x = y ∨ ∃ sz k, y = .nsl sz ∧ x = .ofl sz (n + k) ∧ (nslP n ps).2[k]? = some (.f 0 sz []))
 | [], n => ⟨rfl, fun _ h => (by cases h), by simp [nslP]⟩
 | (b, cs) :: r, n => by
  obtain ⟨h1, h2, h3⟩ := nslP_ok r (n + (nslC n cs).2.length)
  obtain ⟨g1, g2, g3⟩ := nslC_ok n cs n
  have e : nslP n ((b, cs) :: r) = ((b, (nslC n cs).1) :: (nslP (n + (nslC n cs).2.length) r).1, (nslC n cs).2 ++ (nslP (n + (nslC n cs).2.length) r).2) := rfl
  rw [e]
  refine ⟨by simp [h1], fun ob hm => ?_, fun i b' cs' hi => ?_⟩
  ·rcases List.mem_append.1 hm with hm | hm
   ·exact g2 ob hm
   ·exact h2 ob hm
  ·cases i with
   | zero =>
    cases hi
    refine ⟨cs, rfl, g1, fun j x hx => ?_⟩
    obtain ⟨y, hy, hxy⟩ := g3 j x hx
    refine ⟨y, hy, ?_⟩
    rcases hxy with hxy | ⟨sz, k, h4, h5, h6⟩
    ·exact .inl hxy
    ·refine .inr ⟨sz, k, h4, h5, ?_⟩
     rw [List.getElem?_append_left]
     ·exact h6
     ·rcases Nat.lt_or_ge k (nslC n cs).2.length with h' | h'
      ·exact h'
      ·rw [List.getElem?_eq_none h'] at h6; cases h6
   | succ i =>
    obtain ⟨cs0, h4, h5, h6⟩ := h3 i b' cs' hi
    refine ⟨cs0, h4, h5, fun j x hx => ?_⟩
    obtain ⟨y, hy, hxy⟩ := h6 j x hx
    refine ⟨y, hy, ?_⟩
    rcases hxy with hxy | ⟨sz, k, i1, i2, i3⟩
    ·exact .inl hxy
    ·refine .inr ⟨sz, (nslC n cs).2.length + k, i1, by rw [i2]; congr 1; omega, ?_⟩
     rw [List.getElem?_append_right (by omega), show (nslC n cs).2.length + k - (nslC n cs).2.length = k by omega]
     exact i3
theorem RepH.empties (H : RepH P ext w0 own0 locs h w) {bs : List Ob} (hE : isE bs) : RepH P ext w0 own0 (locE h.length bs locs) (h ++ bs) w ∧ Later w (Bar ext locs h) w (Bar ext (locE h.length bs locs) (h ++ bs)) ∧
  (∀ (o : Nat) (x : Loc), locs o = some x → locE h.length bs locs o = some x) := by
 have hbs : ∀ (k : Nat) (ob : Ob), (h ++ bs)[k]? = some ob → (k < h.length ∧ h[k]? = some ob) ∨ (h.length ≤ k ∧ ∃ sz, ob = .f 0 sz [] ∧ locE h.length bs locs k = some ⟨none, 0, sz, 0⟩) := by
  intro k ob hk
  by_cases hlt : k < h.length
  ·rw [List.getElem?_append_left hlt] at hk; exact .inl ⟨hlt, hk⟩
  ·rw [List.getElem?_append_right (by omega)] at hk
   obtain ⟨sz, rfl⟩ := hE ob (List.mem_of_getElem? hk)
   exact .inr ⟨by omega, sz, rfl, by simp only [locE, if_neg hlt, hk]⟩
 have hlo : ∀ (o : Nat), o < h.length → locE h.length bs locs o = locs o := fun o ho => by simp only [locE, if_pos ho]
 have hmono : ∀ (o : Nat) (x : Loc), locs o = some x → locE h.length bs locs o = some x := by
  intro o x hx
  have : o < h.length := by
   rcases Nat.lt_or_ge o h.length with h' | h'
   ·exact h'
   ·rw [H.len o h'] at hx; cases hx
  rw [hlo o this]; exact hx
 have hlive : ∀ (k : Nat) (ob : Ob) (l : Loc) (d : Addr), (h ++ bs)[k]? = some ob → locE h.length bs locs k = some l → (locE h.length bs locs).hs k l d → h[k]? = some ob ∧ locs k = some l ∧ locs.hs k l d := by
  intro k ob l d hk hl hd
  rcases hbs k ob hk with ⟨h1, h2⟩ | ⟨h1, sz, rfl, h3⟩
  ·exact ⟨h2, by rw [hlo k h1] at hl; exact hl, (locE_hs h1).1 hd⟩
  ·have hd := locE_no (by omega) hd
   rw [h3] at hl; cases hl; cases hd
 have hown : ∀ b, ownB (locE h.length bs locs) (h ++ bs) b → ownB locs h b := by
  rintro b ⟨k, l, d, ob, h1, h2, h3, h4, rfl⟩
  obtain ⟨h5, h6, h7⟩ := hlive k ob l d h1 h3 h4
  exact ⟨k, l, d, ob, h5, h2, h6, h7, rfl⟩
 have lt : Later w (Bar ext locs h) w (Bar ext (locE h.length bs locs) (h ++ bs)) := ⟨fun _ _ _ => rfl, fun b _ hb => hb.elim .inl (fun hb => .inr (hown b hb))⟩
 refine ⟨⟨fun o ho => ?_, fun k ob hk => ?_, fun o o' l l' ob ob' d d' hne ho ho' hlv hlv' hl hl' hd hd' => ?_, fun b hb ho => H.extOwn b hb (hown b ho), H.extlt, fun b hb ho => H.ownOld b hb (hown b ho), H.since, H.base, fun o x hx => hmono o x (H.pins o x hx), fun o b hb => H.ownlt o b hb.2⟩, lt, hmono⟩
 ·simp only [List.length_append] at ho
  simp only [locE, if_neg (show ¬ o < h.length by omega)]
  rw [List.getElem?_eq_none (by omega)]
 ·rcases hbs k ob hk with ⟨h1, h2⟩ | ⟨h1, sz, rfl, h3⟩
  ·rcases H.ob k ob h2 with h5 | ⟨h5, h6⟩ | ⟨l, h5, h6⟩
   ·exact .inl h5
   ·exact .inr (.inl ⟨h5, by rw [hlo k h1]; exact h6⟩)
   ·exact .inr (.inr ⟨l, by rw [hlo k h1]; exact h5, by rw [locE_own h1]; exact h6.later lt hmono (fun _ _ _ => rfl) (fun _ _ _ => rfl)⟩)
  ·exact .inr (.inr ⟨_, h3, rfl, rfl, .inl ⟨rfl, rfl, rfl⟩⟩)
 ·obtain ⟨h2, h4, h5⟩ := hlive o ob l d ho hl hd
  obtain ⟨h2', h4', h5'⟩ := hlive o' ob' l' d' ho' hl' hd'
  exact H.apart o o' l l' ob ob' d d' hne h2 h2' hlv hlv' h4 h4' h5 h5'
theorem resK_ok {F : Func} {own : Option Nat} (hp : PinLt own0 (own.getD 0)) {R : TV → List Ob → Prop} {st : St} (hk : resK P F own R st) {a : Act} (Rp : Rep P ext w0 own0 st a w) :
  ∃ v r h' locs', (results F a.tmps).run P w = .ok v w ∧ R r h' ∧ RepH P ext w0 own0 locs' h' w ∧ RT w (Bar ext locs' h') locs' r v := by
 obtain ⟨locs, H, RTm⟩ := Rp.repT
 unfold resK at hk
 obtain ⟨vs, hk, vals, h1, h2, h3⟩ := resVals_ok (t := st.t) (h := st.h) Rp H RTm _ _ hk
 have hrun := results_run h1
 obtain ⟨g1, g2⟩ := argsK_ok (P := P) (w := w) (B := Bar ext locs st.h) (locs := locs) F.resultTypes.toList vs
 split at hk
 ·split at hk
  ·rename_i ps hps
   simp only at hk
   split at hk
   ·rename_i hn
    obtain ⟨i1, i2⟩ := partTs_ok (w := w) (B := Bar ext locs st.h) (locs := locs) hps
    obtain ⟨j1, j2, j3⟩ := nslP_ok ps st.h.length
    obtain ⟨H1, lt1, hmono⟩ := H.empties j2
    obtain ⟨H2, lt2⟩ := reH_ok H1 hn.1 (fun o x hx => take_range hn.2 (hp o x hx))
    refine ⟨oneV vals, _, _, _, hrun, hk, H2, toTV_val (by simp only [List.length_map]; omega) (fun i b cs hi => ?_)⟩
    simp only [List.getElem?_map, Option.map_eq_some_iff] at hi
    obtain ⟨⟨b', cs'⟩, hq, he⟩ := hi
    cases he
    obtain ⟨cs0, hps', hcl, hcs⟩ := j3 i _ _ hq
    obtain ⟨x, hx, hxr⟩ := i2 i _ _ hps'
    obtain ⟨y, hy, hyr⟩ := g2 i x hx
    obtain ⟨v, hv, hr⟩ := h3 i y hy
    refine ⟨v, hv, ?_⟩
    obtain ⟨us, u1, u2, u3, u4⟩ := hxr v (hyr v hr)
    refine ⟨us, u1, by simp [u2, hcl], u3, fun j z hz => ?_⟩
    simp only [List.getElem?_map, Option.map_eq_some_iff] at hz
    obtain ⟨z', hz', rfl⟩ := hz
    obtain ⟨y', hy', hzy⟩ := hcs j z' hz'
    obtain ⟨u, hu, hra⟩ := u4 j y' hy'
    refine ⟨u, hu, reA_ok ?_⟩
    rcases hzy with rfl | ⟨sz, k, rfl, rfl, hk'⟩
    ·exact (hra.later lt1 hmono).later lt2 (fun _ _ h => h)
    ·obtain ⟨a', rfl⟩ := hra
     refine ⟨⟨none, 0, sz, 0⟩, a', 0, ?_, rfl, rfl, Nat.le_refl _, Nat.le_refl _, .inl rfl⟩
     simp only [locE, if_neg (show ¬ st.h.length + k < st.h.length by omega), show st.h.length + k - st.h.length = k by omega, hk']
   ·exact hk.elim
  ·exact hk.elim
 ·split at hk
  ·rename_i ags rd hfr
   split at hk
   ·rename_i ps hps
    obtain ⟨H1, lt1, _, _⟩ := zs_ok rd H
    obtain ⟨f1, f2⟩ := frzTOs_ok (rd := rd) H hfr (fun _ h => h)
    obtain ⟨i1, i2⟩ := partTs_ok (w := w) (B := Bar ext locs (putOs st.h (zs st.h rd))) (locs := noL) hps
    have hown : ∀ b, ¬ ownB noL [] b := by rintro b ⟨o, l, d, ob, h1, _⟩; simp at h1
    have lt : Later w (Bar ext locs (putOs st.h (zs st.h rd))) w (Bar ext noL []) := ⟨fun _ _ _ => rfl, fun b _ hb => hb.elim .inl (fun hb => absurd hb (hown b))⟩
    refine ⟨oneV vals, _, [], noL, hrun, hk, ⟨fun _ _ => rfl, fun o ob ho => by simp at ho, fun o o' l l' ob ob' d d' _ ho => by simp at ho, fun b _ hb => hown b hb, H.extlt, fun b _ hb => absurd hb (hown b), H.since, H.base, fun o x hx => absurd (hp o x hx) (Nat.not_lt_zero o), fun _ _ h => h.elim⟩, ?_⟩
    refine toTV_val (by omega) (fun i b cs hi => ?_)
    obtain ⟨x, hx, hxr⟩ := i2 i b cs hi
    obtain ⟨v, hv, hr⟩ := f2 vals (fun j y hy => by
     obtain ⟨z, hz, hzr⟩ := g2 j y hy
     obtain ⟨v, hv, hr⟩ := h3 j z hz
     exact ⟨v, hv, hzr v hr⟩) noL i x hx
    refine ⟨v, hv, ?_⟩
    exact (hxr v hr).later lt (fun _ _ h => h)
   ·exact hk.elim
  ·exact hk.elim
end
theorem panH_ok {P : Program} {ext : Nat → Prop} {w0 : World} {own0 : Own0} {locs : Locs} {h : List Ob} {w : World} (H : RepH P ext w0 own0 locs h w) {n : Nat} (hp : PinLt own0 n) : ∃ locs', RepH P ext w0 own0 locs' (panH n h) w ∧ Later w (Bar ext locs h) w (Bar ext locs' (panH n h)) := by
 obtain ⟨H1, lt1⟩ := H.sh
 obtain ⟨H2, lt2⟩ := reH_ok H1 (ids := List.range n) List.nodup_range (fun o x hx => by simp [hp o x hx])
 have he : ((List.range n).map fun o => reO (List.range n) (getO (shH h) o)) = panH n h := by
  unfold panH
  refine List.map_congr_left fun o _ => ?_
  simp only [getO, List.getD_eq_getElem?_getD, shH_get]
  cases h[o]? with
  | none => rfl
  | some ob => cases ob <;> simp [shO, reO, reA]
 rw [he] at H2 lt2
 exact ⟨_, H2, lt1.trans lt2 (Nat.le_refl _)⟩
theorem Fn.of_trG {P : Program} {M : Mode} {lv : List Nat → Keep} {f : FuncId} {F : Func} {own : Option Nat} {args : List TV} {h : List Ob} {G : TV → List Ob → Prop} (hm : P.follows .mixedOrders = true) (hf : P.funcs[f]? = some F) (hn : h.length ≤ own.getD 0)
  (ht : trF P M lv F own args h G) (ext : Nat → Prop) (w : World) (locs : Locs) (vals : Array Value) (H : RepH P ext w ⟨ownB locs h, locs, []⟩ locs h w) (hsz : vals.size = args.length)
  (hrep : ∀ (i : Nat) (x : TV), args[i]? = some x → ∃ v, vals[i]? = some v ∧ RT w (Bar ext locs h) locs x v) :
  Calls P f vals w fun e w' => (∃ v r' h' locs', G r' h' ∧ e = .returned v ∧ RepH P ext w ⟨ownB locs h, locs, []⟩ locs' h' w' ∧ RT w' (Bar ext locs' h') locs' r' v) ∨
   (∃ v x st locs', M.kp x st ∧ isPan e v ∧ RepH P ext w ⟨ownB locs h, locs, []⟩ locs' (panH (own.getD 0) st.h) w' ∧ RF w' (Bar ext locs' (panH (own.getD 0) st.h)) x v) := by
 unfold trF at ht
 split at ht
 ·rename_i c hc
  have hp : PinLt ⟨ownB locs h, locs, []⟩ (own.getD 0) := by
   intro o x hx
   rcases Nat.lt_or_ge o h.length with h1 | h1
   ·omega
   ·have := H.len o h1
    rw [show locs o = some x from hx] at this; cases this
  have R : Rep P ext w ⟨ownB locs h, locs, []⟩ ⟨args ++ List.replicate (F.ntmps - args.length) .und, h⟩ { tmps := vals ++ Array.replicate (F.ntmps - vals.size) undef, defers := [] } w := by
   refine ⟨rfl, by simp [hsz], locs, H, fun i x hx => ?_⟩
   simp only at hx
   by_cases hi : i < args.length
   ·rw [List.getElem?_append_left hi] at hx
    obtain ⟨v, hv, hr⟩ := hrep i x hx
    exact ⟨v, by rw [Array.getElem?_append_left (by omega)]; exact hv, hr⟩
   ·rw [List.getElem?_append_right (by omega), List.getElem?_replicate] at hx
    split at hx
    ·cases hx
     refine ⟨undef, ?_, trivial⟩
     rw [Array.getElem?_append_right (by omega)]
     simp only [Array.getElem?_replicate]
     rw [if_pos (by omega)]
    ·cases hx
  refine calls_of_wp hf hc (wp_mono (tr_ok (M := M.at own) hm hp c _ _ _ _ _ _ _ ht R) fun e a w' hq => ?_)
  have fin : ∀ st, resK P F own G st → Rep P ext w ⟨ownB locs h, locs, []⟩ st a w' → a.defers = [] ∧ ∃ v, (results F a.tmps).run P w' = .ok v w' ∧
    ((∃ v' r' h' locs', G r' h' ∧ Ending.returned v = .returned v' ∧ RepH P ext w ⟨ownB locs h, locs, []⟩ locs' h' w' ∧ RT w' (Bar ext locs' h') locs' r' v') ∨
     (∃ v' x st locs', M.kp x st ∧ isPan (.returned v) v' ∧ RepH P ext w ⟨ownB locs h, locs, []⟩ locs' (panH (own.getD 0) st.h) w' ∧ RF w' (Bar ext locs' (panH (own.getD 0) st.h)) x v')) := by
   intro st hk R'
   obtain ⟨v, r', h'', locs', h1, h2, h3, h4⟩ := resK_ok hp hk R'
   exact ⟨R'.defers, v, h1, .inl ⟨v, r', h'', locs', h2, rfl, h3, h4⟩⟩
  cases e with
  | normal => obtain ⟨st, hk, R'⟩ := hq; exact fin st hk R'
  | ret => obtain ⟨st, hk, R'⟩ := hq; exact fin st hk R'
  | exit i => obtain ⟨st, hk, _⟩ := hq; exact hk.elim
  | panic ch =>
   obtain ⟨v, x, st, rfl, hk, R'⟩ := hq
   refine ⟨R'.defers, .inr ?_⟩
   obtain ⟨locs1, H1, RTm⟩ := R'.repT
   obtain ⟨locs2, H2, lt2⟩ := panH_ok H1 hp
   have hs : a.tmps.size = st.t.length := by simpa using R'.size
   obtain ⟨u, hu, hr⟩ := RTm st.t.length (.one (.fz x)) (by simp)
   simp only at hu
   rw [Array.getElem?_push, if_pos hs.symm] at hu
   cases hu
   exact ⟨v, x, st, locs2, hk, rfl, H2, RF.later lt2 hr⟩
  | _ => exact hq.elim
 ·exact ht.elim
theorem Fn.of_tr {P : Program} {M : Mode} {lv : List Nat → Keep} {f : FuncId} {F : Func} {own : Option Nat} {args : List TV} {h : List Ob} {r : TV} {h' : List Ob} (hm : P.follows .mixedOrders = true) (hf : P.funcs[f]? = some F) (hn : h.length ≤ own.getD 0)
  (hk : ∀ x st, M.kp x st → False) (ht : trF P M lv F own args h fun r' h'' => r' = r ∧ h'' = h') : Fn P f args h r h' := by
 intro ext w locs vals H hsz hrep
 refine (Fn.of_trG hm hf hn ht ext w locs vals H hsz hrep).mono ?_
 rintro e w' (⟨v, r', h'', locs', ⟨rfl, rfl⟩, h2, h3, h4⟩ | ⟨v, x, st, locs', h1, _⟩)
 ·exact ⟨v, locs', h2, h3, h4⟩
 ·exact (hk x st h1).elim
theorem FnX.of_tr {P : Program} {M : Mode} {lv : List Nat → Keep} {f : FuncId} {F : Func} {own : Option Nat} {args : List TV} {h : List Ob} {x : FV} (hm : P.follows .mixedOrders = true) (hf : P.funcs[f]? = some F) (hn : h.length ≤ own.getD 0)
  (hk : ∀ y st, M.kp y st → y = x ∧ panH (own.getD 0) st.h = shH h) (ht : trF P M lv F own args h fun _ _ => False) : FnX P f args h x := by
 intro ext w locs vals H hsz hrep
 refine (Fn.of_trG hm hf hn ht ext w locs vals H hsz hrep).mono ?_
 rintro e w' (⟨v, r', h'', locs', h1, _⟩ | ⟨v, y, st, locs', h1, h2, h3, h4⟩)
 ·exact h1.elim
 ·obtain ⟨rfl, h5⟩ := hk y st h1
  rw [h5] at h3 h4
  exact ⟨v, locs', h2, h3, h4⟩
def wk1 (a b : Ob) : Prop := a = b ∨ (∃ et sz es, a = .f et sz es ∧ b = .f 0 sz es) ∨ (∃ s et sz es n fo n', a = .r s et sz es n fo ∧ b = .r s 0 sz es n' fo ∧ (n' = n ∨ n' = none ∧ n = some es.length)) ∨ ∃ s et sz, a = .f et sz [] ∧ b = .r s 0 sz [] none none
def Wk : List Ob → List Ob → Prop
 | [], [] => True
 | a :: l, b :: m => wk1 a b ∧ Wk l m
 | _, _ => False
theorem wk1.refl (a : Ob) : wk1 a a := .inl rfl
theorem Wk.refl : ∀ (l : List Ob), Wk l l
 | [] => trivial
 | a :: l => ⟨.inl rfl, Wk.refl l⟩
theorem wk1_f {et sz sz' : Nat} {es es' : List (List FV)} : wk1 (.f et sz es) (.f 0 sz' es') ↔ (sz = sz' ∧ es = es') := by
 constructor
 ·rintro (h | ⟨_, _, _, h1, h2⟩ | ⟨_, _, _, _, _, _, _, h1, _⟩ | ⟨_, _, _, _, h2⟩)
  ·cases h; exact ⟨rfl, rfl⟩
  ·cases h1; cases h2; exact ⟨rfl, rfl⟩
  ·cases h1
  ·cases h2
 ·rintro ⟨rfl, rfl⟩
  exact .inr (.inl ⟨_, _, _, rfl, rfl⟩)
theorem Wk.get : ∀ {l m : List Ob}, Wk l m → l.length = m.length ∧ ∀ (o : Nat) (b : Ob), m[o]? = some b → ∃ a, l[o]? = some a ∧ wk1 a b
 | [], [], _ => ⟨rfl, by simp⟩
 | a :: l, b :: m, h => by
  obtain ⟨h1, h2⟩ := h.2.get
  refine ⟨by simp [h1], fun o x hx => ?_⟩
  cases o with
  | zero => cases hx; exact ⟨a, rfl, h.1⟩
  | succ o => exact h2 o x hx
theorem Wk.get' {l m : List Ob} (h : Wk l m) (o : Nat) (a : Ob) (ha : l[o]? = some a) : ∃ b, m[o]? = some b ∧ wk1 a b := by
 obtain ⟨h1, h2⟩ := h.get
 have : o < m.length := by rw [← h1]; exact (List.getElem?_eq_some_iff.1 ha).1
 obtain ⟨a', h3, h4⟩ := h2 o m[o] (List.getElem?_eq_getElem this)
 rw [ha] at h3; cases h3
 exact ⟨_, List.getElem?_eq_getElem this, h4⟩
theorem wk1.live {a b : Ob} (h : wk1 a b) : a.live = b.live := by
 rcases h with rfl | ⟨_, _, _, rfl, rfl⟩ | ⟨_, _, _, _, _, _, _, rfl, rfl, _⟩ | ⟨_, _, _, rfl, rfl⟩ <;> rfl
theorem wk1.repOb {a b : Ob} (h : wk1 a b) {P : Program} {w : World} {B : Nat → Prop} {locs : Nat → Option Loc} {S : Nat → Prop} {l : Loc} (hr : RepOb P w B locs S l a) : RepOb P w B locs S l b := by
 rcases h with rfl | ⟨_, _, _, rfl, rfl⟩ | ⟨_, _, _, es, n, _, n', rfl, rfl, hn⟩ | ⟨s, _, _, rfl, rfl⟩
 rotate_left 3
 ·obtain ⟨h1, h2, h3⟩ := hr
  refine ⟨h1, h2, h3.imp id ?_⟩
  rintro ⟨b, off, c, ty, g1, g2, g3, g4, g5, g6⟩
  exact ⟨b, off, c, ty, fun _ _ _ => False, g1, g2, .inl rfl, g4, g5, ⟨fun _ _ _ h => h.elim, fun _ _ _ _ _ h => h.elim⟩, fun i e hi => by simp at hi⟩
 ·exact hr
 ·obtain ⟨h1, h2, h3⟩ := hr
  refine ⟨h1, h2, h3.imp id ?_⟩
  rintro ⟨b, off, c, ty, g1, g2, g3, g4⟩
  exact ⟨b, off, c, ty, g1, g2, .inl rfl, g4⟩
 ·obtain ⟨h1, h2, h3⟩ := hr
  refine ⟨h1, h2, h3.imp id ?_⟩
  rintro ⟨b, off, c, ty, SS, g1, g2, g3, g4, g5, g6, g7⟩
  refine ⟨b, off, c, ty, SS, g1, g2, .inl rfl, g4, g5, g6, fun i e hi => ⟨(g7 i e hi).1, fun j x hx => ?_⟩⟩
  obtain ⟨v, hv, hc⟩ := (g7 i e hi).2 j x hx
  refine ⟨v, hv, ?_⟩
  rcases hn with rfl | ⟨rfl, rfl⟩
  ·exact hc
  ·have hin : inN (some es.length) i := fun k hk => by cases hk; exact (List.getElem?_eq_some_iff.1 hi).1
   have hin2 : inN none i := fun k hk => by cases hk
   unfold CR at hc ⊢
   split
   ·rename_i hk; rw [hk] at hc; exact hc
   ·rename_i s' hk
    rw [hk] at hc
    rcases hc with hc | hc
    ·exact absurd hin hc.1
    ·exact .inr ⟨hin2, hc.2⟩
theorem Wk.ownB {l m : List Ob} (h : Wk l m) (locs : Locs) (b : Nat) : ownB locs m b ↔ ownB locs l b := by
 constructor
 ·rintro ⟨o, x, d, ob, h1, h2, h3⟩
  obtain ⟨a, h4, h5⟩ := h.get.2 o ob h1
  exact ⟨o, x, d, a, h4, by rw [h5.live]; exact h2, h3⟩
 ·rintro ⟨o, x, d, ob, h1, h2, h3⟩
  obtain ⟨a, h4, h5⟩ := h.get' o ob h1
  exact ⟨o, x, d, a, h4, by rw [← h5.live]; exact h2, h3⟩
theorem RepH.weak {P : Program} {ext : Nat → Prop} {w0 : World} {own0 : Own0} {locs : Locs} {h h' : List Ob} {w : World} (H : RepH P ext w0 own0 locs h w) (k : Wk h h') : RepH P ext w0 own0 locs h' w ∧ ∀ b, Bar ext locs h' b ↔ Bar ext locs h b := by
 have hb : ∀ b, Bar ext locs h' b ↔ Bar ext locs h b := fun b => by unfold Bar; rw [k.ownB]
 have he : Bar ext locs h' = Bar ext locs h := funext fun b => propext (hb b)
 refine ⟨⟨fun o ho => H.len o (by rw [k.get.1]; exact ho), fun o ob ho => ?_, fun o o' l l' ob ob' d d' hne ho ho' hl hl' => ?_, fun b hb ho => H.extOwn b hb ((k.ownB locs b).1 ho), H.extlt, fun b hb ho => H.ownOld b hb ((k.ownB locs b).1 ho), H.since, H.base, H.pins, H.ownlt⟩, hb⟩
 ·obtain ⟨a, h1, h2⟩ := k.get.2 o ob ho
  rcases H.ob o a h1 with rfl | ⟨rfl, h3⟩ | ⟨l, h3, h4⟩
  ·rcases h2 with rfl | ⟨_, _, _, h2, _⟩ | ⟨_, _, _, _, _, _, _, h2, _⟩ | ⟨_, _, _, h2, _⟩
   ·exact .inl rfl
   ·cases h2
   ·cases h2
   ·cases h2
  ·rcases h2 with rfl | ⟨_, _, _, h2, _⟩ | ⟨_, _, _, _, _, _, _, h2, _⟩ | ⟨_, _, _, h2, _⟩
   ·exact .inr (.inl ⟨rfl, h3⟩)
   ·cases h2
   ·cases h2
   ·cases h2
  ·refine .inr (.inr ⟨l, h3, ?_⟩)
   rw [he]; exact h2.repOb h4
 ·obtain ⟨a, h1, h2⟩ := k.get.2 o ob ho
  obtain ⟨a', h1', h2'⟩ := k.get.2 o' ob' ho'
  exact H.apart o o' l l' a a' d d' hne h1 h1' (by rw [h2.live]; exact hl) (by rw [h2'.live]; exact hl')
theorem Fn.of_trW {P : Program} {M : Mode} {lv : List Nat → Keep} {f : FuncId} {F : Func} {own : Option Nat} {args : List TV} {h : List Ob} {r : TV} {h' : List Ob} (hm : P.follows .mixedOrders = true) (hf : P.funcs[f]? = some F) (hn : h.length ≤ own.getD 0)
  (hk : ∀ x st, M.kp x st → False) (ht : trF P M lv F own args h fun r' h'' => r' = r ∧ Wk h'' h') : Fn P f args h r h' := by
 intro ext w locs vals H hsz hrep
 refine (Fn.of_trG hm hf hn ht ext w locs vals H hsz hrep).mono ?_
 rintro e w' (⟨v, r', h'', locs', ⟨rfl, k⟩, h2, h3, h4⟩ | ⟨v, x, st, locs', h1, _⟩)
 rotate_left
 ·exact (hk x st h1).elim
 obtain ⟨g1, g2⟩ := h3.weak k
 exact ⟨v, locs', h2, g1, by rw [show Bar ext locs' h' = Bar ext locs' h'' from funext fun b => propext (g2 b)]; exact h4⟩
theorem Fn.by_tr {P : Program} {M : Mode} {lv : List Nat → Keep} {f : FuncId} {F : Func} {own : Option Nat} {args : List TV} {h : List Ob} {r : TV} {h' : List Ob} {X : Prop} (hm : P.follows .mixedOrders = true) (hf : P.funcs[f]? = some F) (hn : h.length ≤ own.getD 0)
  (hk : ∀ x st, M.kp x st → False) (he : (trF P M lv F own args h fun r' h'' => r' = r ∧ h'' = h') = X) (H : X) : Fn P f args h r h' := Fn.of_tr hm hf hn hk (Eq.mpr he H)
theorem Fn.by_trW {P : Program} {M : Mode} {lv : List Nat → Keep} {f : FuncId} {F : Func} {own : Option Nat} {args : List TV} {h : List Ob} {r : TV} {h' : List Ob} {X : Prop} (hm : P.follows .mixedOrders = true) (hf : P.funcs[f]? = some F) (hn : h.length ≤ own.getD 0)
  (hk : ∀ x st, M.kp x st → False) (he : (trF P M lv F own args h fun r' h'' => r' = r ∧ Wk h'' h') = X) (H : X) : Fn P f args h r h' := Fn.of_trW hm hf hn hk (Eq.mpr he H)
theorem FnX.by_tr {P : Program} {M : Mode} {lv : List Nat → Keep} {f : FuncId} {F : Func} {own : Option Nat} {args : List TV} {h : List Ob} {x : FV} {X : Prop} (hm : P.follows .mixedOrders = true) (hf : P.funcs[f]? = some F) (hn : h.length ≤ own.getD 0)
  (hk : ∀ y st, M.kp y st → y = x ∧ panH (own.getD 0) st.h = shH h) (he : (trF P M lv F own args h fun _ _ => False) = X) (H : X) : FnX P f args h x := FnX.of_tr hm hf hn hk (Eq.mpr he H)
theorem LoopAt.by_tr {P : Program} {M : Mode} {lv : List Nat → Keep} {F : Func} {own : Option Nat} {R : TV → List Ob → Prop} {path : List Nat} {st : St} {X : Prop} (hm : P.follows .mixedOrders = true) (he : Round P M lv F own R path st = X) (H : X) : LoopAt P M lv F own R path st :=
 LoopAt.intro hm (Eq.mpr he H)
end
section
def lvOf : List (List Nat × Keep) → List Nat → Keep
 | [], _ => ⟨0, 0, [], false, false⟩
 | (p, k) :: r, q => if p = q then k else lvOf r q
def sigOf : List (Nat × List Sig) → FuncId → List Sig
 | [], _ => []
 | (f, l) :: r, g => if f = g then l else sigOf r g
def modeOf (l : List Nat) (s : List (Nat × List Sig)) : Mode := ⟨fun g => l.contains g, sigOf s, 0, fun _ => false, fun _ _ => False, false⟩
def modeC (l : List Nat) (s : List (Nat × List Sig)) : Mode := ⟨fun g => l.contains g, sigOf s, 0, fun _ => false, fun _ _ => False, true⟩
def modeX (l : List Nat) (s : List (Nat × List Sig)) (m : List Nat) (n : Nat) (RX : FV → List Ob → Prop) : Mode := ⟨fun g => l.contains g, sigOf s, 0, fun g => m.contains g, fun x st => RX x (panH n st.h), false⟩
end
section
open Go Go.Proofs Go.ChangeShapes Go.WideShapes Go.RowKit
inductive Ty (P : Program) : TypeId → List FV → Prop where
 | bool {t : TypeId} (b : Bool) (h : P.underlying t = some .bool) : Ty P t [.bool b]
 | int {t : TypeId} {k : IntKind} (n : Int) (h : P.underlying t = some (.int k)) (h0 : k.min ≤ n) (h1 : n ≤ k.max) : Ty P t [.int k n]
 | str {t : TypeId} (s : ByteArray) (h : P.underlying t = some .string) (h1 : s.size ≤ reachBytes) : Ty P t [.str s]
 | sl {t e : TypeId} (es : List (List FV)) (h : P.underlying t = some (.slice e)) (h1 : es.length * P.bytesOf e ≤ reachBytes) (h2 : ∀ x ∈ es, Ty P e x) : Ty P t [.sl (P.cellsOf e) es]
 | struct {t : TypeId} {fs : Array Field} (parts : List (List FV)) (h : P.underlying t = some (.struct fs)) (h1 : parts.length = fs.size) (h2 : ∀ (i : Nat) (f : Field) (x : List FV), fs[i]? = some f → parts[i]? = some x → Ty P f.type x) : Ty P t parts.flatten
def layB (P : Program) (S : List TypeId) : List Field → Nat → Nat → Bool
 | [], off, n => off == n
 | f :: r, off, n => f.offset == off && S.contains f.type && layB P S r (off + P.cellsOf f.type) n
def closedOne (P : Program) (S : List TypeId) (t : TypeId) : Bool :=
 match P.underlying t with
 | some .bool | some (.int _) | some .string => P.cellsOf t == 1
 | some (.slice e) => P.cellsOf t == 1 && S.contains e && decide (0 < P.cellsOf e)
 | some (.struct fs) => layB P S fs.toList 0 (P.cellsOf t)
 | _ => false
def closedB (P : Program) (S : List TypeId) : Bool := S.all (closedOne P S)
theorem listChoose {α : Type} : ∀ (n : Nat) (p : Nat → α → Prop), (∀ i, i < n → ∃ x, p i x) → ∃ l : List α, l.length = n ∧ ∀ (i : Nat) (x : α), l[i]? = some x → p i x
 | 0, p, h => ⟨[], rfl, by simp⟩
 | n + 1, p, h => by
  obtain ⟨x, hx⟩ := h 0 (by omega)
  obtain ⟨l, h1, h2⟩ := listChoose n (fun i => p (i + 1)) (fun i hi => h (i + 1) (by omega))
  refine ⟨x :: l, by simp [h1], fun i y hy => ?_⟩
  cases i with
  | zero => cases hy; exact hx
  | succ i => exact h2 i y hy
theorem weightsAll_mem {H : Type} {P : Program} {e : TypeId} : ∀ {ds : List (DataW H)} {d : DataW H} {n : Nat}, d ∈ ds → n ∈ d.weights P e → n ∈ DataW.weightsAll P e ds
 | x :: ds, d, n, h, hn => by
  rw [DataW.weightsAll]
  rcases List.mem_cons.1 h with rfl | h
  ·exact List.mem_append_left _ hn
  ·exact List.mem_append_right _ (weightsAll_mem h hn)
mutual
def bulkD {H : Type} : DataW H → Nat
 | .lit (.string bytes) => bytes.length + 1
 | .lit _ => 1
 | .nil => 1
 | .ptr d => bulkD d + 1
 | .slice elems spare => bulkDs elems + bulkDs spare + 1
 | .agg parts => bulkDs parts + 1
 | .iface _ d => bulkD d + 1
 | .map _ => 1
 | .held _ => 1
def bulkDs {H : Type} : List (DataW H) → Nat
 | [] => 0
 | d :: r => bulkD d + bulkDs r
end
mutual
def FV.bulk : FV → Nat
 | .str s => s.size + 1
 | .sl _ es => FV.bulkE es + 1
 | _ => 1
def FV.bulkE : List (List FV) → Nat
 | [] => 0
 | e :: r => FV.bulkL e + FV.bulkE r
def FV.bulkL : List FV → Nat
 | [] => 0
 | x :: r => x.bulk + FV.bulkL r
end
theorem bulkL_app : ∀ (a b : List FV), FV.bulkL (a ++ b) = FV.bulkL a + FV.bulkL b
 | [], b => by simp [FV.bulkL]
 | x :: a, b => by simp only [List.cons_append, FV.bulkL, bulkL_app a b]; omega
theorem bulkE_le {H : Type} : ∀ (es : List (List FV)) (ds : List (DataW H)), es.length = ds.length → (∀ (i : Nat) (x : List FV) (d : DataW H), es[i]? = some x → ds[i]? = some d → FV.bulkL x ≤ bulkD d) → FV.bulkE es ≤ bulkDs ds
 | [], ds, _, _ => by simp [FV.bulkE]
 | x :: es, [], hl, _ => by simp at hl
 | x :: es, d :: ds, hl, h => by
  have h1 := h 0 x d rfl rfl
  have h2 := bulkE_le es ds (by simpa using hl) (fun i x d hx hd => h (i + 1) x d hx hd)
  simp only [FV.bulkE, bulkDs]
  omega
section
variable {H : Type} {enc : TypeId × Value → H} {P : Program} {W : World} {base : Nat} {spare : Nat → Bool} {held : Bool} {S : List TypeId}
def Cells (W : World) (fs : List FV) (cs : List Value) : Prop := fs.length = cs.length ∧ ∀ (j : Nat) (x : FV) (v : Value), fs[j]? = some x → cs[j]? = some v → RF W (fun _ => False) x v
theorem opened_fields {fuel : Nat} (ih : ∀ (t : TypeId) (cs : List Value) (y : DataW H × List MemPlace), S.contains t = true → DataW.trod enc P W base spare held fuel t cs = some y → (∀ n ∈ y.1.weights P t, n ≤ reachBytes) → ∃ fs, Ty P t fs ∧ fs.length = P.cellsOf t ∧ Cells W fs cs ∧ FV.bulkL fs ≤ bulkD y.1) :
  ∀ (l : List Field) (off : Nat) (cs : List Value) (xs : List (DataW H × List MemPlace)), layB P S l off cs.length = true → off ≤ cs.length → (l.mapM fun f => DataW.trod enc P W base spare held fuel f.type ((cs.drop f.offset).take (P.cellsOf f.type))) = some xs →
   (∀ n ∈ DataW.weightsEach P (l.map (·.type)) (xs.map (·.1)), n ≤ reachBytes) →
   ∃ parts : List (List FV), parts.length = l.length ∧ (∀ (i : Nat) (f : Field) (x : List FV), l[i]? = some f → parts[i]? = some x → Ty P f.type x) ∧ Cells W parts.flatten (cs.drop off) ∧ FV.bulkL parts.flatten ≤ bulkDs (xs.map (·.1))
 | [], off, cs, xs, hl, ho, hm, hw => by
  have : off = cs.length := by simpa [layB] using hl
  subst this
  exact ⟨[], rfl, by simp, by simp [Cells], by simp [FV.bulkL]⟩
 | f :: l, off, cs, xs, hl, ho, hm, hw => by
  simp only [layB, Bool.and_eq_true, beq_iff_eq] at hl
  obtain ⟨⟨hfo, hS⟩, hl⟩ := hl
  rw [List.mapM_cons] at hm
  simp only [Option.bind_eq_bind, Option.bind_eq_some_iff, Option.pure_def, Option.some.injEq] at hm
  obtain ⟨y, hy, ys, hys, rfl⟩ := hm
  simp only [List.map_cons, DataW.weightsEach] at hw
  obtain ⟨fs, h1, hcl, ⟨h2, h3⟩, hbk⟩ := ih f.type _ y hS hy (fun n hn => hw n (List.mem_append_left _ hn))
  rw [hfo] at h2 h3
  have hle : off + P.cellsOf f.type ≤ cs.length := by
   rw [hcl, List.length_take, List.length_drop] at h2
   omega
  obtain ⟨parts, g1, g2, ⟨g3, g4⟩, gbk⟩ := opened_fields ih l _ cs ys hl hle hys (fun n hn => hw n (List.mem_append_right _ hn))
  refine ⟨fs :: parts, by simp [g1], fun i f' x hf hx => ?_, ⟨?_, fun j x v hx hv => ?_⟩, by rw [List.flatten_cons, bulkL_app, List.map_cons, bulkDs]; omega⟩
  ·cases i with
   | zero => cases hf; cases hx; exact h1
   | succ i => exact g2 i f' x hf hx
  ·simp only [List.flatten_cons, List.length_append, g3, hcl, List.length_drop]
   omega
  ·rw [List.flatten_cons] at hx
   by_cases hj : j < fs.length
   ·rw [List.getElem?_append_left hj] at hx
    refine h3 j x v hx ?_
    rw [List.getElem?_take, if_pos (by omega)]
    exact hv
   ·rw [List.getElem?_append_right (by omega)] at hx
    refine g4 (j - fs.length) x v hx ?_
    rw [List.getElem?_drop] at hv ⊢
    rw [← hv]
    congr 1
    omega
theorem opened (hS : closedB P S = true) : ∀ (fuel : Nat) (t : TypeId) (cs : List Value) (y : DataW H × List MemPlace), S.contains t = true → DataW.trod enc P W base spare held fuel t cs = some y → (∀ n ∈ y.1.weights P t, n ≤ reachBytes) →
  ∃ fs, Ty P t fs ∧ fs.length = P.cellsOf t ∧ Cells W fs cs ∧ FV.bulkL fs ≤ bulkD y.1
 | 0, t, cs, y, _, h, _ => by simp [DataW.trod] at h
 | fuel + 1, t, cs, y, ht, h, hw => by
  have hc : closedOne P S t = true := List.all_eq_true.1 hS t (by simpa using ht)
  unfold closedOne at hc
  unfold DataW.trod at h
  have one : ∀ (x : FV) (v : Value), RF W (fun _ => False) x v → Cells W [x] [v] := fun x v hr => ⟨rfl, fun j y u hy hu => by
   cases j with
   | zero => cases hy; cases hu; exact hr
   | succ j => simp at hy⟩
  cases hu : P.underlying t with
  | none => simp [hu] at hc
  | some ds =>
   cases ds with
   | bool =>
    simp only [hu] at h hc
    split at h <;> simp_all
    rename_i b
    exact ⟨_, .bool b hu, by simp, one _ _ (.bool _), by simp [FV.bulkL, FV.bulk, ← h, bulkD]⟩
   | int k =>
    simp only [hu] at h hc
    split at h <;> simp_all
    rename_i k' n _
    obtain ⟨⟨rfl, hwf⟩, rfl⟩ := h
    simp only [Lit.wf, Bool.and_eq_true, decide_eq_true_eq] at hwf
    exact ⟨_, .int n hu hwf.1 hwf.2, by simp, one _ _ (.int _ _), by simp [FV.bulkL, FV.bulk, bulkD]⟩
   | string =>
    simp only [hu] at h hc
    split at h <;> simp_all
    rename_i s
    obtain ⟨_, rfl⟩ := h
    refine ⟨_, .str s hu ?_, by simp, one _ _ (.str _), by simp [FV.bulkL, FV.bulk, bulkD]⟩
    have := hw s.data.toList.length (by simp [DataW.weights])
    simpa using this
   | slice e =>
    simp only [hu, Bool.and_eq_true, decide_eq_true_eq] at h hc
    obtain ⟨⟨hc1, hSe⟩, hpos⟩ := hc
    split at h <;> simp_all
    ·rename_i e2 _
     subst h
     exact ⟨_, .sl [] hu (by simp) (by simp), by simp, one _ _ (.slN _ _ _), by simp [FV.bulkL, FV.bulk, FV.bulkE, bulkD]⟩
    ·rename_i e2 a len cap hee
     subst hee
     obtain ⟨⟨hb, hlc, hcm⟩, h⟩ := h
     rw [Option.bind_eq_some_iff] at h
     obtain ⟨elems, he, h⟩ := h
     obtain ⟨rest, hr, rfl⟩ := Option.map_eq_some_iff.1 h
     simp only [DataW.weights, hu] at hw
     have hlen := mapM_some_length he
     simp only [List.length_range] at hlen
     have hget := mapM_some_get he
     have hel : ∀ i, i < len → ∃ x : List FV, Ty P e x ∧ x.length = P.cellsOf e ∧ ∃ vs : List Value, (W.cells? base (a.add (i * P.cellsOf e)) (P.cellsOf e)) = some vs ∧ Cells W x vs ∧ ∀ d, elems[i]? = some d → FV.bulkL x ≤ bulkD d.1 := by
      intro i hi
      have h1 := hget i i (by simp [hi])
      obtain ⟨d, hd⟩ : ∃ d, elems[i]? = some d := ⟨_, List.getElem?_eq_getElem (by omega)⟩
      rw [hd, Option.bind_eq_some_iff] at h1
      obtain ⟨vs, h2, h3⟩ := h1
      obtain ⟨fs, k1, k2, k3, k4⟩ := opened hS fuel e vs d (by simpa using hSe) h3 (fun n hn => hw n (List.mem_cons_of_mem _ (List.mem_append_left _ (weightsAll_mem (List.mem_map.2 ⟨d, List.mem_of_getElem? hd, rfl⟩) hn))))
      exact ⟨fs, k1, k2, vs, h2, k3, fun d' hd' => by rw [hd] at hd'; cases hd'; exact k4⟩
     obtain ⟨es, e1, e2⟩ := listChoose len _ hel
     have hweight : es.length * P.bytesOf e ≤ reachBytes := by
      have := hw _ List.mem_cons_self
      simp only [List.length_map] at this
      refine Nat.le_trans (Nat.mul_le_mul_right _ ?_) this
      omega
     have hty : Ty P t [.sl (P.cellsOf e) es] := .sl es hu hweight (fun x hx => by
      obtain ⟨i, hi⟩ := List.mem_iff_getElem?.1 hx
      exact (e2 i x hi).1)
     have hbulk : FV.bulkE es ≤ bulkDs (elems.map (·.1)) := bulkE_le es _ (by simp [e1, hlen]) (fun i x d hx hd => by
      rw [List.getElem?_map, Option.map_eq_some_iff] at hd
      obtain ⟨y, hy, rfl⟩ := hd
      obtain ⟨_, _, vs, _, _, h5⟩ := e2 i x hx
      exact h5 y hy)
     refine ⟨_, hty, by simp [hc1], one _ _ ?_, by simp only [FV.bulkL, FV.bulk, bulkD]; omega⟩
     rcases Nat.eq_zero_or_pos len with h0 | h0
     ·have : es = [] := List.length_eq_zero_iff.1 (by omega)
      subst this
      subst h0
      exact .slN _ _ _
     ·
      have hcell : ∀ i vs, W.cells? base (a.add (i * P.cellsOf e)) (P.cellsOf e) = some vs → ∀ j, j < P.cellsOf e → ∃ v, vs[j]? = some v ∧ W.cell? ((a.add (i * P.cellsOf e)).add j) = some v := by
       intro i vs hvs j hj
       unfold World.cells? at hvs
       split at hvs
       ·have h1 := mapM_some_length hvs
        simp only [List.length_range] at h1
        have h2 := mapM_some_get hvs j j (by simp [hj])
        exact ⟨vs[j]'(by omega), List.getElem?_eq_getElem (by omega), by rw [h2, List.getElem?_eq_getElem (by omega)]⟩
       ·cases hvs
      obtain ⟨b, off, spot⟩ := a
      have hspot : spot = none := by
       obtain ⟨x, hx⟩ : ∃ x, es[0]? = some x := ⟨_, List.getElem?_eq_getElem (by omega)⟩
       obtain ⟨_, _, vs, h1, _⟩ := e2 0 x hx
       obtain ⟨v, _, h2⟩ := hcell 0 vs h1 0 hpos
       rw [Nat.zero_mul] at h2
       simp only [Addr.add, if_true] at h2
       unfold World.cell? at h2
       simp only at h2
       cases spot with
       | none => rfl
       | some s => split at h2 <;> simp at h2
      subst hspot
      have hrow : ∀ (i : Nat) (x : List FV) (j : Nat) (f : FV), es[i]? = some x → x[j]? = some f → ∃ v, W.cell? ⟨b, off + i * P.cellsOf e + j, none⟩ = some v ∧ RF W (fun _ => False) f v := by
       intro i x j f hx hf
       obtain ⟨_, h2, vs, h3, ⟨h4, h5⟩, _⟩ := e2 i x hx
       have hj : j < P.cellsOf e := by rw [← h2]; exact (List.getElem?_eq_some_iff.1 hf).1
       obtain ⟨v, h6, h7⟩ := hcell i vs h3 j hj
       rw [Addr.add_lit, Addr.add_lit] at h7
       exact ⟨v, h7, h5 j f v hf h6⟩
      have : RF W (fun _ => False) (.sl (P.cellsOf e) es) (.slice (some ⟨b, off, none⟩) es.length cap) := by
       refine .sl es b off cap (P.cellsOf e) (fun i j => (W.cell? ⟨b, off + i * P.cellsOf e + j, none⟩).getD undef) (fun _ _ _ _ _ _ h => h) (by omega) (fun i x hx => (e2 i x hx).2.1) (fun i x j f hx hf => ?_) (fun i x j f hx hf => ?_)
       ·obtain ⟨v, h1, _⟩ := hrow i x j f hx hf
        rw [h1]; rfl
       ·obtain ⟨v, h1, h2⟩ := hrow i x j f hx hf
        rw [h1]; exact h2
      rw [e1] at this
      exact this
   | struct fs =>
    simp only [hu] at h hc
    split at h
    ·rename_i hcs
     obtain ⟨xs, hxs, rfl⟩ := Option.map_eq_some_iff.1 h
     simp only [DataW.weights, hu] at hw
     rw [← hcs] at hc
     obtain ⟨parts, g1, g2, g3, g5⟩ := opened_fields (fun t cs y h1 h2 h3 => opened hS fuel t cs y h1 h2 h3) fs.toList 0 cs xs hc (by omega) hxs hw
     rw [List.drop_zero] at g3
     refine ⟨_, .struct parts hu (by simpa using g1) (fun i f x hf hx => g2 i f x (by simpa using hf) hx), ?_, g3, by simp only [bulkD]; omega⟩
     rw [g3.1, hcs]
    ·cases h
   | _ => simp [hu] at hc
def TV.bulk : TV → Nat
 | .one (.fz f) => f.bulk
 | .agg cs => (cs.map fun | .fz f => f.bulk | _ => 0).sum
 | _ => 0
theorem bulk_agg : ∀ (fs : List FV), TV.bulk (.agg (fs.map .fz)) = FV.bulkL fs
 | [] => rfl
 | f :: fs => by
  have := bulk_agg fs
  simp only [TV.bulk, List.map_cons, List.sum_cons, FV.bulkL] at this ⊢
  rw [this]
def bulkA : List TV → Nat
 | [] => 0
 | x :: r => x.bulk + bulkA r
def TyV (P : Program) (t : TypeId) (x : TV) : Prop :=
 (∃ fs : List FV, x = .agg (fs.map .fz) ∧ Ty P t fs ∧ ∃ ds, P.underlying t = some (.struct ds)) ∨ ∃ f : FV, x = .one (.fz f) ∧ Ty P t [f]
theorem openedV (hS : closedB P S = true) {t : TypeId} {v : Value} {d : DataW H} {ps : List MemPlace} {r : Reach} {b0 : Nat} (ht : S.contains t = true) (hv : Value.okWide P W r b0 t v) (h : DataW.Trod enc P W base spare held t v d ps) (hw : ∀ n ∈ d.weights P t, n ≤ reachBytes) :
  ∃ x, TyV P t x ∧ RT W (fun _ => False) (fun _ => none) x v ∧ x.bulk ≤ bulkD d := by
 obtain ⟨fuel, h⟩ := h
 obtain ⟨fs, h1, h2, ⟨h3, h4⟩, h5⟩ := opened hS fuel t _ (d, ps) ht h hw
 have hc : closedOne P S t = true := List.all_eq_true.1 hS t (by simpa using ht)
 unfold closedOne at hc
 have single : P.cellsOf t = 1 → v.cells = #[v] → ∃ x, TyV P t x ∧ RT W (fun _ => False) (fun _ => none) x v ∧ x.bulk ≤ bulkD d := by
  intro hc hv
  rw [hc] at h2
  obtain ⟨f, rfl⟩ := List.length_eq_one_iff.1 h2
  exact ⟨.one (.fz f), .inr ⟨f, rfl, h1⟩, h4 0 f v rfl (by rw [hv]; rfl), by simpa [TV.bulk, FV.bulkL] using h5⟩
 cases hu : P.underlying t with
 | none => simp [hu] at hc
 | some ds =>
  cases ds with
  | bool =>
   obtain ⟨b, rfl⟩ := okWide_bool hu hv
   exact single (by simpa [hu] using hc) rfl
  | int k =>
   obtain ⟨n, rfl⟩ := okWide_int hu hv
   exact single (by simpa [hu] using hc) rfl
  | string =>
   obtain ⟨s, rfl⟩ := okWide_string hu hv
   exact single (by simpa [hu] using hc) rfl
  | slice e =>
   obtain ⟨a, len, cap, rfl⟩ := okWide_slice hu hv
   simp only [hu, Bool.and_eq_true, beq_iff_eq] at hc
   exact single hc.1.1 rfl
  | struct fs' =>
   obtain ⟨cs, rfl, _⟩ := okWide_struct hu hv
   refine ⟨.agg (fs.map .fz), .inl ⟨fs, rfl, h1, _, hu⟩, ⟨cs.toList, by simp [mkV], by simpa [Value.cells] using h3.symm, by simp, fun j x hx => ?_⟩, by rw [bulk_agg]; exact h5⟩
   simp only [List.getElem?_map, Option.map_eq_some_iff] at hx
   obtain ⟨f, hf, rfl⟩ := hx
   have hj : j < fs.length := (List.getElem?_eq_some_iff.1 hf).1
   have hj' : j < cs.toList.length := by have : fs.length = cs.toList.length := h3; omega
   exact ⟨cs.toList[j], List.getElem?_eq_getElem hj', h4 j f _ hf (List.getElem?_eq_getElem hj')⟩
  | _ => simp [hu] at hc
inductive TyAll (P : Program) : List TypeId → List TV → Prop where
 | nil : TyAll P [] []
 | cons {t : TypeId} {ts : List TypeId} {x : TV} {xs : List TV} (h : TyV P t x) (hs : TyAll P ts xs) : TyAll P (t :: ts) (x :: xs)
theorem openedAll (hS : closedB P S = true) {r : Reach} {b0 : Nat} : ∀ {ts us : List TypeId} {vs : List Value} {ds gs : List (DataW H)} {ps : List MemPlace}, (∀ t ∈ ts, S.contains t = true) → (∀ (j : Nat) (t : TypeId) (v : Value), ts[j]? = some t → vs[j]? = some v → Value.okWide P W r b0 t v) →
  DataW.TrodAll enc P W base spare held ts vs ds ps → (∀ n ∈ DataW.weightsEach P (ts ++ us) (ds ++ gs), n ≤ reachBytes) →
  ∃ xs, TyAll P ts xs ∧ xs.length = vs.length ∧ (∀ (i : Nat) (x : TV), xs[i]? = some x → ∃ v, vs[i]? = some v ∧ RT W (fun _ => False) (fun _ => none) x v) ∧ bulkA xs ≤ bulkDs ds
 | [], us, vs, ds, gs, ps, _, _, h, _ => by
  cases vs with
  | nil => exact ⟨[], .nil, rfl, by simp, by simp [bulkA]⟩
  | cons _ _ => cases ds <;> exact h.elim
 | t :: ts, us, vs, ds, gs, ps, ht, hv, h, hw => by
  obtain ⟨v, vs', d, ds', p, q, rfl, rfl, rfl, h1, h2⟩ := trodAll_cons h
  simp only [List.cons_append, DataW.weightsEach] at hw
  obtain ⟨x, g1, g2, g3⟩ := openedV hS (ht t List.mem_cons_self) (hv 0 t v rfl rfl) h1 (fun n hn => hw n (List.mem_append_left _ hn))
  obtain ⟨xs, k1, k2, k3, k4⟩ := openedAll hS (fun u hu => ht u (List.mem_cons_of_mem _ hu)) (fun j u w hu hw' => hv (j + 1) u w hu hw') h2 (fun n hn => hw n (List.mem_append_right _ hn))
  refine ⟨x :: xs, .cons g1 k1, by simp [k2], fun i y hy => ?_, by simp only [bulkA, bulkDs]; omega⟩
  cases i with
  | zero => cases hy; exact ⟨v, rfl, g2⟩
  | succ i => exact k3 i y hy
theorem trodAll_below (hl : laidOutB P = true) {W' : World} (hb : Below W.heap.size W W') : ∀ {ts : List TypeId} {vs : List Value} {ds : List (DataW H)} {ps : List MemPlace}, (∀ t ∈ ts, P.readableRec t = true ∧ t < P.types.size) →
  DataW.TrodAll enc P W 0 (fun _ => true) true ts vs ds ps → DataW.TrodAll enc P W' 0 (fun b => decide (b < W.heap.size)) true ts vs ds ps
 | [], vs, ds, ps, _, h => by
  cases vs <;> cases ds <;> first | exact h | exact h.elim
 | t :: ts, vs, ds, ps, ht, h => by
  obtain ⟨v, vs', d, ds', p, q, rfl, rfl, rfl, h1, h2⟩ := trodAll_cons h
  have lt : ∀ x ∈ p, x.block < W.heap.size := by obtain ⟨m, hm⟩ := h1; exact DataW.trod_lt m _ _ _ hm
  have := ht t List.mem_cons_self
  exact trodAll_cons_mk (Below.trod hl this.1 this.2 h1 hb lt) (trodAll_below hl hb (fun u hu => ht u (List.mem_cons_of_mem _ hu)) h2)
end
theorem Fn.door {P : Program} {f : FuncId} {xs : List TV} {W : World} (hG : Glob W) (F : Fn P f xs [] (.one (.fz (.bool true))) []) {args : Array Value} (hlen : xs.length = args.size)
  (hx : ∀ (i : Nat) (x : TV), xs[i]? = some x → ∃ v, args[i]? = some v ∧ RT W (fun _ => False) (fun _ => none) x v) :
  Calls P f args W fun e W' => e = .returned (.bool true) ∧ Below W.heap.size W W' := by
 have hown : ∀ (locs : Locs) b, ¬ ownB locs [] b := by rintro locs b ⟨o, l, d, ob, h1, _⟩; simp at h1
 have H : RepH P (fun _ => False) W ⟨ownB noL [], fun _ => none, []⟩ noL [] W :=
  ⟨fun _ _ => rfl, fun o ob ho => by simp at ho, fun o o' l l' ob ob' d d' _ ho => by simp at ho, fun b hb => hb.elim, fun b hb => hb.elim, fun b _ hb => hb, Since.refl _ _, ⟨hG, fun b hb => absurd hb (hown _ b), fun b hb => hb.elim⟩, fun _ _ h => (by cases h), fun _ _ h => h.elim⟩
 refine (F (fun _ => False) W noL args H hlen.symm (fun i x hi => ?_)).mono ?_
 ·obtain ⟨v, h1, h2⟩ := hx i x hi
  exact ⟨v, h1, h2.later ⟨fun _ _ _ => rfl, fun b _ hb => hb.elim id (fun hb => absurd hb (hown _ b))⟩ (fun _ _ h => h)⟩
 ·rintro e w' ⟨v, locs', rfl, H', hr⟩
  cases hr
  exact ⟨rfl, ⟨H'.since.os, H'.since.tape, H'.since.output, H'.since.size, fun k hk => H'.since.block k hk (hown _ k)⟩⟩
theorem laid_mem {P : Program} {w : World} : ∀ {l : List (String × DataW Unit)} {ps : List MemPlace} {n : String} {d : DataW Unit}, DataW.LaidVars P w l ps → (n, d) ∈ l →
  ∃ g t cs fuel p, P.globalNamed n = some g ∧ (P.globals[g]?).map (·.type) = some t ∧ w.var? P n = some cs ∧ DataW.trod (fun _ => ()) P w 0 (fun _ => true) false fuel t cs.toList = some (d, p)
 | [], ps, n, d, _, h => by cases h
 | (m, e) :: l, ps, n, d, hl, h => by
  obtain ⟨g, t, cs, fuel, p, q, h1, h2, h3, h4, h5, _⟩ := hl
  rcases List.mem_cons.1 h with h | h
  ·cases h; exact ⟨g, t, cs, fuel, p, h1, h2, h3, h4⟩
  ·exact laid_mem h5 h
theorem var_heap {P : Program} {w : World} {n : String} {g : Nat} {cs : Array Value} (hg : P.globalNamed n = some g) (hv : w.var? P n = some cs) : ∃ t z, w.heap[g]? = some (.cells cs t z) := by
 unfold World.var? at hv
 rw [hg] at hv
 simp only [Option.bind_some] at hv
 split at hv
 ·rename_i c t z h
  cases hv
  exact ⟨t, z, h⟩
 ·cases hv
theorem tabAt_ints_of {P : Program} {W : World} {l : List (String × DataW Unit)} (h : laidMet P l W) {n : String} {k : IntKind} {zs : List Int} (hm : (n, Lib.tabData k zs) ∈ l) {g : Nat} {t e : TypeId} {c : Nat} (hg : P.globalNamed n = some g) (hty : (P.globals[g]?).map (·.type) = some t)
  (ht : P.underlying t = some (.array c e)) (he : P.underlying e = some (.int k)) (hce : P.cellsOf e = 1) (hct : P.cellsOf t = c) : TabAt W (fun _ => True) g (zs.map fun z => FV.int k z) := by
 obtain ⟨ps, hl, _⟩ := h
 obtain ⟨g', t', cs, fuel, p, h1, h2, h3, h4⟩ := laid_mem hl hm
 obtain rfl := Option.some.inj (hg.symm.trans h1)
 obtain rfl := Option.some.inj (hty.symm.trans h2)
 have hc := Lib.cells_of_tab ht he hce hct h4
 obtain ⟨ty, z, hh⟩ := var_heap h1 h3
 refine ⟨cs, ty, z, hh, by rw [← Array.length_toList, hc]; simp, fun j f hf => ?_⟩
 simp only [List.getElem?_map, Option.map_eq_some_iff] at hf
 obtain ⟨x, hx, rfl⟩ := hf
 exact ⟨.int k x, by rw [← Array.getElem?_toList, hc]; simp [hx], .int _ _⟩
def isIfc : DataW Unit → Bool
 | .iface _ _ => true
 | _ => false
theorem tabAt_ifc_of {P : Program} {W : World} {l : List (String × DataW Unit)} (h : laidMet P l W) {n : String} {d : DataW Unit} (hd : isIfc d = true) (hm : (n, d) ∈ l) {g : Nat} {t : TypeId} {ms : Array (String × TypeId)} (hg : P.globalNamed n = some g) (hty : (P.globals[g]?).map (·.type) = some t)
  (ht : P.underlying t = some (.interface ms)) : TabAt W (fun _ => True) g [.ifc true] := by
 obtain ⟨a, b, rfl⟩ : ∃ a b, d = .iface a b := by
  cases d <;> first | exact ⟨_, _, rfl⟩ | cases hd
 obtain ⟨ps, hl, _⟩ := h
 obtain ⟨g', t', cs, fuel, p, h1, h2, h3, h4⟩ := laid_mem hl hm
 obtain rfl := Option.some.inj (hg.symm.trans h1)
 obtain rfl := Option.some.inj (hty.symm.trans h2)
 obtain ⟨ty, z, hh⟩ := var_heap h1 h3
 cases fuel with
 | zero => simp [DataW.trod] at h4
 | succ fuel =>
  unfold DataW.trod at h4
  simp only [ht] at h4
  clear hl
  split at h4 <;> simp_all
  rename_i u v _ _ hcs
  refine ⟨cs, ty, z, hh, by rw [← Array.length_toList, hcs]; rfl, fun j f hf => ?_⟩
  cases j with
  | zero =>
   cases hf
   refine ⟨.iface u v, ?_, .ifcS _ _⟩
   rw [← Array.getElem?_toList, hcs]; rfl
  | succ j => simp at hf
end
section
open Go Go.Proofs Go.RowKit
mutual
def flatD : DataW Unit → Option (List FV)
 | .lit (.int k n) => some [.int k n]
 | .lit (.bool b) => some [.bool b]
 | .lit (.string l) => some [.str ⟨l.toArray⟩]
 | .agg ds => flatDs ds
 | _ => none
def flatDs : List (DataW Unit) → Option (List FV)
 | [] => some []
 | d :: r => match flatD d, flatDs r with
  | some a, some b => some (a ++ b)
  | _, _ => none
end
def contB (P : Program) (g : TypeId → Bool) : List (Nat × TypeId) → Nat → Nat → Bool
 | [], off, n => off == n
 | f :: r, off, n => f.1 == off && g f.2 && contB P g r (off + P.cellsOf f.2) n
def flatTy (P : Program) : Nat → TypeId → Bool
 | 0, _ => false
 | m + 1, t => match P.underlying t with
  | some .bool | some (.int _) | some .string => P.cellsOf t == 1
  | some (.array n e) => contB P (flatTy P m) ((List.range n).map fun i => (i * P.cellsOf e, e)) 0 (P.cellsOf t)
  | some (.struct fs) => contB P (flatTy P m) (fs.toList.map fun f => (f.offset, f.type)) 0 (P.cellsOf t)
  | _ => false
def CellsB (W : World) (B : Nat → Prop) (fs : List FV) (cs : List Value) : Prop := fs.length = cs.length ∧ ∀ (j : Nat) (x : FV) (v : Value), fs[j]? = some x → cs[j]? = some v → RF W B x v
section
variable {P : Program} {W : World} {B : Nat → Prop}
abbrev trodU (P : Program) (W : World) (fuel : Nat) (t : TypeId) (cs : List Value) : Option (DataW Unit × List MemPlace) := DataW.trod (fun _ => ()) P W 0 (fun _ => true) false fuel t cs
theorem flat_pairs {g : TypeId → Bool} {fuel : Nat} (ih : ∀ (t : TypeId) (cs : List Value) (y : DataW Unit × List MemPlace), g t = true → trodU P W fuel t cs = some y → ∃ fs, flatD y.1 = some fs ∧ cs.length = P.cellsOf t ∧ CellsB W B fs cs) :
  ∀ (l : List (Nat × TypeId)) (off : Nat) (cs : List Value) (xs : List (DataW Unit × List MemPlace)), contB P g l off cs.length = true → off ≤ cs.length → (l.mapM fun f => trodU P W fuel f.2 ((cs.drop f.1).take (P.cellsOf f.2))) = some xs →
   ∃ fs : List FV, flatDs (xs.map (·.1)) = some fs ∧ CellsB W B fs (cs.drop off)
 | [], off, cs, xs, hl, ho, hm => by
  have : off = cs.length := by simpa [contB] using hl
  subst this
  cases (by simpa using hm : ([] : List (DataW Unit × List MemPlace)) = xs)
  exact ⟨[], rfl, by simp [CellsB]⟩
 | f :: l, off, cs, xs, hl, ho, hm => by
  simp only [contB, Bool.and_eq_true, beq_iff_eq] at hl
  obtain ⟨⟨hfo, hS⟩, hl⟩ := hl
  rw [List.mapM_cons] at hm
  simp only [Option.bind_eq_bind, Option.bind_eq_some_iff, Option.pure_def, Option.some.injEq] at hm
  obtain ⟨y, hy, ys, hys, rfl⟩ := hm
  obtain ⟨fs, h1, hcl, h2, h3⟩ := ih f.2 _ y hS hy
  rw [hfo] at h2 h3 hcl
  have hle : off + P.cellsOf f.2 ≤ cs.length := by
   rw [List.length_take, List.length_drop] at hcl
   omega
  obtain ⟨parts, g1, g3, g4⟩ := flat_pairs ih l _ cs ys hl hle hys
  refine ⟨fs ++ parts, by simp only [List.map_cons, flatDs, h1, g1], ?_, fun j x v hx hv => ?_⟩
  ·rw [List.length_append, h2, g3, hcl, List.length_drop, List.length_drop]
   omega
  ·by_cases hj : j < fs.length
   ·rw [List.getElem?_append_left hj] at hx
    refine h3 j x v hx ?_
    rw [List.getElem?_take, if_pos (by omega)]
    exact hv
   ·rw [List.getElem?_append_right (by omega)] at hx
    refine g4 (j - fs.length) x v hx ?_
    rw [List.getElem?_drop] at hv ⊢
    rw [← hv]
    congr 1
    omega
theorem flat_trod : ∀ (m fuel : Nat) (t : TypeId) (cs : List Value) (y : DataW Unit × List MemPlace), flatTy P m t = true → trodU P W fuel t cs = some y → ∃ fs, flatD y.1 = some fs ∧ cs.length = P.cellsOf t ∧ CellsB W B fs cs
 | 0, fuel, t, cs, y, ht, h => by cases ht
 | m + 1, 0, t, cs, y, ht, h => by simp [trodU, DataW.trod] at h
 | m + 1, fuel + 1, t, cs, y, ht, h => by
  unfold flatTy at ht
  unfold trodU DataW.trod at h
  have one : ∀ (x : FV) (v : Value), RF W B x v → CellsB W B [x] [v] := fun x v hr => ⟨rfl, fun j y u hy hu => by
   cases j with
   | zero => cases hy; cases hu; exact hr
   | succ j => simp at hy⟩
  cases hu : P.underlying t with
  | none => simp [hu] at ht
  | some ds =>
   cases ds with
   | bool =>
    simp only [hu] at h ht
    split at h <;> simp_all
    rename_i b
    rw [← h]
    exact ⟨_, rfl, one _ _ (.bool _)⟩
   | int k =>
    simp only [hu] at h ht
    split at h <;> simp_all
    rename_i k' n _
    obtain ⟨⟨rfl, hwf⟩, rfl⟩ := h
    exact ⟨_, rfl, one _ _ (.int _ _)⟩
   | string =>
    simp only [hu] at h ht
    split at h <;> simp_all
    rename_i s
    obtain ⟨_, rfl⟩ := h
    refine ⟨_, rfl, one _ _ ?_⟩
    have : (⟨s.data.toList.toArray⟩ : ByteArray) = s := by cases s; simp
    simp only [Array.toArray_toList]
    exact .str _
   | array n e =>
    simp only [hu] at h ht
    split at h
    ·rename_i hcs
     obtain ⟨xs, hxs, rfl⟩ := Option.map_eq_some_iff.1 h
     rw [← hcs] at ht
     have hm : ((List.range n).map fun i => (i * P.cellsOf e, e)).mapM (fun f : Nat × TypeId => trodU P W fuel f.2 ((cs.drop f.1).take (P.cellsOf f.2))) = some xs := by
      rw [List.mapM_map]; exact hxs
     obtain ⟨fs, g1, g2⟩ := flat_pairs (fun t cs y h1 h2 => flat_trod m fuel t cs y h1 h2) _ 0 cs xs ht (by omega) hm
     exact ⟨fs, g1, hcs, by simpa using g2⟩
    ·cases h
   | struct fs0 =>
    simp only [hu] at h ht
    split at h
    ·rename_i hcs
     obtain ⟨xs, hxs, rfl⟩ := Option.map_eq_some_iff.1 h
     rw [← hcs] at ht
     have hm : (fs0.toList.map fun f => (f.offset, f.type)).mapM (fun f : Nat × TypeId => trodU P W fuel f.2 ((cs.drop f.1).take (P.cellsOf f.2))) = some xs := by
      rw [List.mapM_map]; exact hxs
     obtain ⟨fs, g1, g2⟩ := flat_pairs (fun t cs y h1 h2 => flat_trod m fuel t cs y h1 h2) _ 0 cs xs ht (by omega) hm
     exact ⟨fs, g1, hcs, by simpa using g2⟩
    ·cases h
   | _ => simp [hu] at ht
end
theorem tabAt_flat_of {P : Program} {W : World} {l : List (String × DataW Unit)} (h : laidMet P l W) {n : String} {d : DataW Unit} {fs : List FV} (hd : flatD d = some fs) (hm : (n, d) ∈ l) {g : Nat} {t : TypeId} {m : Nat} (hg : P.globalNamed n = some g) (hty : (P.globals[g]?).map (·.type) = some t)
  (ht : flatTy P m t = true) : TabAt W (fun _ => True) g fs := by
 obtain ⟨ps, hl, _⟩ := h
 obtain ⟨g', t', cs, fuel, p, h1, h2, h3, h4⟩ := laid_mem hl hm
 obtain rfl := Option.some.inj (hg.symm.trans h1)
 obtain rfl := Option.some.inj (hty.symm.trans h2)
 obtain ⟨fs', k1, k2, k3, k4⟩ := flat_trod (B := fun _ => True) m fuel t cs.toList _ ht h4
 obtain rfl := Option.some.inj (hd.symm.trans k1)
 obtain ⟨ty, z, hh⟩ := var_heap h1 h3
 refine ⟨cs, ty, z, hh, by rw [k3, Array.length_toList], fun j f hf => ?_⟩
 have hj : j < cs.size := by rw [← Array.length_toList, ← k3]; exact (List.getElem?_eq_some_iff.1 hf).1
 exact ⟨cs[j], Array.getElem?_eq_getElem hj, k4 j f _ hf (by rw [Array.getElem?_toList]; exact Array.getElem?_eq_getElem hj)⟩
end
section
open Go Go.Proofs Go.ChangeShapes Go.RowKit
mutual
theorem bulkD_le {H : Type} : ∀ d : DataW H, bulkD d ≤ Rows.uptoBulk d
 | .lit l => by cases l <;> simp [bulkD, Rows.uptoBulk]
 | .nil => by simp [bulkD, Rows.uptoBulk]
 | .ptr d => by have := bulkD_le d; simp only [bulkD, Rows.uptoBulk]; omega
 | .slice es sp => by have := bulkDs_le es; have := bulkDs_le sp; simp only [bulkD, Rows.uptoBulk]; omega
 | .agg ps => by have := bulkDs_le ps; simp only [bulkD, Rows.uptoBulk]; omega
 | .iface _ d => by have := bulkD_le d; simp only [bulkD, Rows.uptoBulk]; omega
 | .map _ => by simp only [bulkD, Rows.uptoBulk]; omega
 | .held _ => by simp [bulkD, Rows.uptoBulk]
theorem bulkDs_le {H : Type} : ∀ ds : List (DataW H), bulkDs ds ≤ Rows.uptoBulkAll ds
 | [] => by simp [bulkDs]
 | d :: r => by have := bulkD_le d; have := bulkDs_le r; simp only [bulkDs, Rows.uptoBulkAll]; omega
end
theorem uptoAll_app {H : Type} : ∀ (a b : List (DataW H)), Rows.uptoBulkAll (a ++ b) = Rows.uptoBulkAll a + Rows.uptoBulkAll b
 | [], b => by simp [Rows.uptoBulkAll]
 | d :: a, b => by have := uptoAll_app a b; simp only [List.cons_append, Rows.uptoBulkAll, this]; omega
theorem upto_bulk {H : Type} {ds gs : List (DataW H)} (h : Rows.uptoSmall H (ds ++ gs) = true) : bulkDs ds ≤ 1048576 := by
 unfold Rows.uptoSmall at h
 have h1 := of_decide_eq_true h
 rw [uptoAll_app] at h1
 have := bulkDs_le ds
 omega
section
variable {H : Type} {enc : TypeId × Value → H}
theorem returnsIn_upto {C : Checked} {os : Os} {f : FuncId} {fn : Func} {s : ChangeSpec} {conds : List PathCond} {apart : Bool} {X : World → Array Value → Prop}
  (hX : ∀ (w w' : World) (args : Array Value), w.heap = w'.heap → X w args → X w' args)
  (own : ownKnob C.prog.godebug = none) (started : os.Started) (noInit : C.prog.inits.idxOf? f = none) (hfn : C.prog.funcs[f]? = some fn)
  (witness : ∃ (w : World) (tape : Tape) (i : Input), w.os = os ∧ (w.forCall tape i).Shaped C.prog ∧ i.vars = [] ∧ Input.okWide C.prog (w.forCall tape i) .any w.heap.size f i ∧
   (((Rows.OpenSpec.upto s).pre enc C.prog fn conds apart (w.forCall tape i).memory i.args ∧ X (w.forCall tape i).memory i.args) ∧ sizedMet enc C.prog fn (Rows.OpenSpec.upto s) apart (w.forCall tape i).memory i.args) ∧ ({} : Assume).holds C.prog (lone (Frame.enter C.prog f i.args .normal) [] (w.forCall tape i)))
  (contract : ∀ (W : World) (base : Nat) (args : Array Value) (ds gs : List (DataW H)) (before : List MemPlace),
   (∀ (j : Nat) t v, fn.params[j]? = some t → args[j]? = some v → Value.okWide C.prog W .any base t v) →
   DataW.Whole enc C.prog fn.params.toList s.vars apart W args.toList ds gs before →
   conds.all (PathCond.test C.prog ⟨fn.params.toList, ds, s.plain.varTypes C.prog, gs⟩) = true → bulkDs ds ≤ 1048576 →
   (DataW.weightsEach C.prog (fn.params.toList ++ s.plain.varTypes C.prog) (ds ++ gs)).all (· ≤ reachBytes) = true → X W args →
   Calls C.prog f args W fun e W' => ∃ v, e = .returned v ∧ s.post enc C.prog fn apart true false false W args v W') :
  ReturnsInHanded {} C os f .any (fun w args => ((Rows.OpenSpec.upto s).pre enc C.prog fn conds apart w args ∧ X w args) ∧ sizedMet enc C.prog fn (Rows.OpenSpec.upto s) apart w args) (s.post enc C.prog fn apart true false false) := by
 refine returnsInHanded_of_calls own started noInit witness ?_
 intro w tape i _ _ _ hok hpre hholds
 obtain ⟨_, _, _, fn', hfn', _, _, _, _, hval⟩ := hok
 have e : fn' = fn := Option.some.inj (hfn'.symm.trans hfn)
 subst e
 obtain ⟨⟨⟨ds, gs, before, hw, hc, hk⟩, hx⟩, hz⟩ := hpre
 have hw' := DataW.Whole.of_heap (w' := w.forCall tape i) (by rfl) hw
 have hz' : sizedMet enc C.prog fn' (OpenSpec.ofChange s) apart (w.forCall tape i).memory i.args := hz
 refine (contract (w.forCall tape i) w.heap.size i.args ds gs before hval hw' hc (upto_bulk hk) (hz'.weights hw) (hX _ _ _ (by rfl) hx)).mono fun e W' ⟨v, he, hp⟩ => ?_
 subst he
 exact ChangeSpec.post_blind hp
theorem witness_upto {C : Checked} {os : Os} {f : FuncId} {fn : Func} {s : ChangeSpec} {conds : List PathCond} {apart : Bool} {X : World → Array Value → Prop} (w0 : World) (args : Array Value) (fuel : Nat) (hos : w0.os = os)
  (hsh : (w0.forCall (fun _ _ => 0) ⟨#[], args, []⟩).Shaped C.prog)
  (hok : Input.okWideB C.prog (w0.forCall (fun _ _ => 0) ⟨#[], args, []⟩) f ⟨#[], args, []⟩ = true)
  (hpre : (DataW.whole enc C.prog (w0.forCall (fun _ _ => 0) ⟨#[], args, []⟩).memory fn.params.toList s.vars apart args.toList fuel).any
   (fun x => conds.all (PathCond.test C.prog ⟨fn.params.toList, x.1, s.plain.varTypes C.prog, x.2.1⟩) && Rows.uptoSmall H (x.1 ++ x.2.1)) = true)
  (hsz : s.sizedB enc C.prog fn apart (w0.forCall (fun _ _ => 0) ⟨#[], args, []⟩).memory args fuel = true)
  (hx : X (w0.forCall (fun _ _ => 0) ⟨#[], args, []⟩).memory args) :
  ∃ (w : World) (tape : Tape) (i : Input), w.os = os ∧ (w.forCall tape i).Shaped C.prog ∧ i.vars = [] ∧ Input.okWide C.prog (w.forCall tape i) .any w.heap.size f i ∧
   (((Rows.OpenSpec.upto s).pre enc C.prog fn conds apart (w.forCall tape i).memory i.args ∧ X (w.forCall tape i).memory i.args) ∧ sizedMet enc C.prog fn (Rows.OpenSpec.upto s) apart (w.forCall tape i).memory i.args) ∧ ({} : Assume).holds C.prog (lone (Frame.enter C.prog f i.args .normal) [] (w.forCall tape i)) := by
 obtain ⟨x, hx1, hx2⟩ := (Option.any_eq_true _ _).1 hpre
 rw [Bool.and_eq_true] at hx2
 have hsz' : sizedMet enc C.prog fn (OpenSpec.ofChange s) apart (w0.forCall (fun _ _ => 0) ⟨#[], args, []⟩).memory args := sizedMet_of_sizedB hsz
 exact ⟨w0, fun _ _ => 0, ⟨#[], args, []⟩, hos, hsh, (Input.okWide_of_okWideB (base := 0) hok).1, (Input.okWide_of_okWideB hok).2, ⟨⟨⟨x.1, x.2.1, x.2.2, DataW.Whole_of_whole hx1, hx2.1, hx2.2⟩, hx⟩, hsz'⟩, by
  simp only [Assume.holds]
  exact ⟨by simp, by simp, fun _ => Modest.zero, by simp, by simp⟩⟩
end
end
section
def rd (l : List Int) (i : Nat) : Int := l.getD i 0
def val (B : Int) : List Int → Int
 | [] => 0
 | x :: l => x + B * val B l
def Lim (B : Int) (l : List Int) : Prop := ∀ x ∈ l, 0 ≤ x ∧ x < B
def Norm (l : List Int) : Prop := ∀ h : l ≠ [], l.getLast h ≠ 0
theorem val_append (B : Int) (l m : List Int) : val B (l ++ m) = val B l + B ^ l.length * val B m := by
 induction l with
 | nil => simp [val]
 | cons x l ih => simp only [List.cons_append, val, ih, List.length_cons, Int.pow_succ]; grind
theorem val_snoc (B : Int) (l : List Int) (x : Int) : val B (l ++ [x]) = val B l + B ^ l.length * x := by
 rw [val_append]; simp [val]
theorem rd_at (l : List Int) (i : Nat) (h : i < l.length) : rd l i = l[i] := by
 unfold rd; simp [List.getD_eq_getElem?_getD, List.getElem?_eq_getElem h]
theorem rd_out (l : List Int) (i : Nat) (h : l.length ≤ i) : rd l i = 0 := by
 unfold rd; simp [List.getD_eq_getElem?_getD, List.getElem?_eq_none h]
theorem rd_some {l : List Int} {i : Nat} {x : Int} (h : l[i]? = some x) : rd l i = x := by
 unfold rd; simp [List.getD_eq_getElem?_getD, h]
theorem some_rd {l : List Int} {i : Nat} (h : i < l.length) : l[i]? = some (rd l i) := by
 rw [rd_at l i h]; exact List.getElem?_eq_getElem h
theorem Lim.nil (B : Int) : Lim B [] := by intro x hx; simp at hx
theorem Lim.append {B : Int} {l m : List Int} (h : Lim B l) (k : Lim B m) : Lim B (l ++ m) := by
 intro x hx
 rcases List.mem_append.1 hx with h1 | h1
 ·exact h x h1
 ·exact k x h1
theorem Lim.snoc {B : Int} {l : List Int} {x : Int} (h : Lim B l) (h0 : 0 ≤ x) (h1 : x < B) : Lim B (l ++ [x]) := h.append (by intro y hy; simp at hy; subst hy; exact ⟨h0, h1⟩)
theorem Lim.cons {B : Int} {l : List Int} {x : Int} (h : Lim B l) (h0 : 0 ≤ x) (h1 : x < B) : Lim B (x :: l) := by
 intro y hy
 rcases List.mem_cons.1 hy with rfl | hy
 ·exact ⟨h0, h1⟩
 ·exact h y hy
theorem Lim.left {B : Int} {l m : List Int} (h : Lim B (l ++ m)) : Lim B l := fun x hx => h x (List.mem_append_left _ hx)
theorem Lim.take {B : Int} {l : List Int} (h : Lim B l) (i : Nat) : Lim B (l.take i) := fun x hx => h x (List.mem_of_mem_take hx)
theorem Lim.drop {B : Int} {l : List Int} (h : Lim B l) (i : Nat) : Lim B (l.drop i) := fun x hx => h x (List.mem_of_mem_drop hx)
theorem Lim.rd {B : Int} (hB : 0 < B) {l : List Int} (h : Lim B l) (i : Nat) : 0 ≤ rd l i ∧ rd l i < B := by
 by_cases hi : i < l.length
 ·rw [rd_at l i hi]; exact h _ (List.getElem_mem _)
 ·rw [rd_out l i (by omega)]; exact ⟨Int.le_refl _, hB⟩
theorem pow_pos' {B : Int} (hB : 0 < B) (n : Nat) : 0 < B ^ n := Int.pow_pos hB
theorem pow_mono {B : Int} (hB : 1 ≤ B) {m n : Nat} (h : m ≤ n) : B ^ m ≤ B ^ n := by
 induction n with
 | zero => have : m = 0 := by omega
           subst this; exact Int.le_refl _
 | succ n ih =>
  by_cases e : m = n + 1
  ·subst e; exact Int.le_refl _
  ·have h1 := ih (by omega)
   have h2 := pow_pos' (show 0 < B by omega) n
   have h3 : B ^ n * 1 ≤ B ^ n * B := Int.mul_le_mul_of_nonneg_left hB (Int.le_of_lt h2)
   rw [Int.pow_succ]
   omega
theorem val_nonneg {B : Int} (hB : 0 < B) {l : List Int} (h : Lim B l) : 0 ≤ val B l := by
 induction l with
 | nil => exact Int.le_refl _
 | cons x l ih =>
  have h1 := (h x (by simp)).1
  have h2 := ih fun y hy => h y (by simp [hy])
  have h3 := Int.mul_nonneg (Int.le_of_lt hB) h2
  simp only [val]; omega
theorem val_lt {B : Int} (hB : 0 < B) {l : List Int} (h : Lim B l) : val B l < B ^ l.length := by
 induction l with
 | nil => simp [val]
 | cons x l ih =>
  have h1 := (h x (by simp)).2
  have h2 := ih fun y hy => h y (by simp [hy])
  have h3 : B * (val B l + 1) ≤ B * B ^ l.length := Int.mul_le_mul_of_nonneg_left (by omega) (Int.le_of_lt hB)
  simp only [val, List.length_cons, Int.pow_succ]
  have h4 : B ^ l.length * B = B * B ^ l.length := Int.mul_comm _ _
  rw [h4]
  rw [Int.mul_add, Int.mul_one] at h3
  omega
theorem Norm.nil : Norm [] := fun h => absurd rfl h
theorem norm_le {B : Int} (hB : 0 < B) {l : List Int} (h : Lim B l) (hn : Norm l) (h0 : l ≠ []) : B ^ (l.length - 1) ≤ val B l := by
 obtain ⟨m, x, rfl⟩ : ∃ m x, l = m ++ [x] := ⟨l.dropLast, l.getLast h0, (List.dropLast_concat_getLast h0).symm⟩
 have hx := hn h0
 simp at hx
 have hx1 := h x (by simp)
 rw [val_snoc]
 have h1 := val_nonneg hB h.left
 have h2 : B ^ m.length * 1 ≤ B ^ m.length * x := Int.mul_le_mul_of_nonneg_left (by omega) (Int.le_of_lt (pow_pos' hB _))
 simp
 omega
theorem val_zero_iff {B : Int} (hB : 0 < B) {l : List Int} (h : Lim B l) (hn : Norm l) : val B l = 0 ↔ l = [] := by
 constructor
 ·intro hv
  rcases Decidable.em (l = []) with h0 | h0
  ·exact h0
  ·have := norm_le hB h hn h0
   have := pow_pos' hB (l.length - 1)
   omega
 ·rintro rfl; rfl
theorem norm_tail {x : Int} {l : List Int} (h : Norm (x :: l)) : Norm l := by
 intro h0
 have := h (by simp)
 rwa [List.getLast_cons h0] at this
theorem uniq {B : Int} (hB : 0 < B) : ∀ {l m : List Int}, Lim B l → Lim B m → Norm l → Norm m → val B l = val B m → l = m
 | [], m, _, hm, _, nm, e => ((val_zero_iff hB hm nm).1 e.symm).symm
 | l, [], hl, _, nl, _, e => (val_zero_iff hB hl nl).1 e
 | x :: l, y :: m, hl, hm, nl, nm, e => by
  simp only [val] at e
  have hx := hl x (by simp)
  have hy := hm y (by simp)
  have e1 : (x + B * val B l) % B = (y + B * val B m) % B := by rw [e]
  rw [Int.add_mul_emod_self_left, Int.add_mul_emod_self_left, Int.emod_eq_of_lt hx.1 hx.2, Int.emod_eq_of_lt hy.1 hy.2] at e1
  subst e1
  have e2 : val B l = val B m := Int.eq_of_mul_eq_mul_left (a := B) (by omega) (by omega)
  rw [uniq hB (fun z hz => hl z (by simp [hz])) (fun z hz => hm z (by simp [hz])) (norm_tail nl) (norm_tail nm) e2]
theorem len_le_iff {B : Int} (hB : 1 < B) {l : List Int} (h : Lim B l) (hn : Norm l) (n : Nat) : l.length ≤ n ↔ val B l < B ^ n := by
 have hB0 : 0 < B := by omega
 constructor
 ·intro hl
  have h1 := val_lt hB0 h
  have h2 : B ^ l.length ≤ B ^ n := pow_mono (by omega) hl
  omega
 ·intro hv
  apply Decidable.byContradiction
  intro hc
  have h0 : l ≠ [] := by rintro rfl; simp at hc
  have h1 := norm_le hB0 h hn h0
  have h2 : B ^ n ≤ B ^ (l.length - 1) := pow_mono (by omega) (by omega)
  omega
theorem norm_of_rd {l : List Int} (h : 0 < l.length → rd l (l.length - 1) ≠ 0) : Norm l := by
 intro h0
 have hl : 0 < l.length := List.length_pos_iff.2 h0
 have h1 := h hl
 rw [rd_at l _ (by omega)] at h1
 rw [List.getLast_eq_getElem]
 exact h1
theorem val_take_succ (B : Int) (l : List Int) (i : Nat) : val B (l.take (i + 1)) = val B (l.take i) + B ^ i * rd l i := by
 by_cases h : i < l.length
 ·rw [List.take_succ_eq_append_getElem h, val_snoc, ← rd_at l i h, List.length_take, Nat.min_eq_left (by omega)]
 ·rw [rd_out l i (by omega), List.take_of_length_le (by omega), List.take_of_length_le (by omega), Int.mul_zero, Int.add_zero]
def digs (B : Nat) (n : Nat) : List Int := if h : n = 0 ∨ B ≤ 1 then [] else ((n % B : Nat) : Int) :: digs B (n / B)
termination_by n
decreasing_by exact Nat.div_lt_self (by omega) (by omega)
theorem digs_zero (B : Nat) : digs B 0 = [] := by unfold digs; simp
theorem digs_pos {B n : Nat} (hB : 1 < B) (hn : 0 < n) : digs B n = ((n % B : Nat) : Int) :: digs B (n / B) := by rw [digs, dif_neg (by omega)]
theorem digs_spec {B : Nat} (hB : 1 < B) (n : Nat) : Lim B (digs B n) ∧ Norm (digs B n) ∧ val B (digs B n) = n := by
 induction n using Nat.strongRecOn with
 | _ n ih =>
  rcases Nat.eq_zero_or_pos n with rfl | hn
  ·rw [digs_zero]; exact ⟨Lim.nil _, Norm.nil, rfl⟩
  ·obtain ⟨h1, h2, h3⟩ := ih (n / B) (Nat.div_lt_self hn hB)
   rw [digs_pos hB hn]
   have hm := Nat.mod_lt n (show 0 < B by omega)
   refine ⟨h1.cons (by omega) (by omega), ?_, ?_⟩
   ·intro h
    by_cases hd : digs B (n / B) = []
    ·have h0 : n / B = 0 := by
      rw [hd] at h3
      simp [val] at h3
      omega
     simp only [hd, List.getLast_singleton]
     have := Nat.div_add_mod n B
     rw [h0] at this
     simp at this
     omega
    ·rw [List.getLast_cons hd]; exact h2 hd
   ·simp only [val, h3]
    have := Nat.div_add_mod n B
    have e : ((n % B : Nat) : Int) + (B : Int) * ((n / B : Nat) : Int) = ((B * (n / B) + n % B : Nat) : Int) := by push_cast; omega
    rw [e, this]
theorem digs_lim {B : Nat} (hB : 1 < B) (n : Nat) : Lim B (digs B n) := (digs_spec hB n).1
theorem digs_norm {B : Nat} (hB : 1 < B) (n : Nat) : Norm (digs B n) := (digs_spec hB n).2.1
theorem digs_val {B : Nat} (hB : 1 < B) (n : Nat) : val B (digs B n) = n := (digs_spec hB n).2.2
theorem digs_eq {B : Nat} (hB : 1 < B) {l : List Int} (h : Lim B l) (hn : Norm l) : digs B (val B l).toNat = l := by
 refine uniq (B := B) (by omega) (digs_lim hB _) h (digs_norm hB _) hn ?_
 rw [digs_val hB]
 exact Int.toNat_of_nonneg (val_nonneg (by omega) h)
theorem digsB_eq {l : List Int} (h : Lim 1000000000 l) (hn : Norm l) : digs 1000000000 (val 1000000000 l).toNat = l := digs_eq (B := 1000000000) (by omega) h hn
theorem digsT_eq {l : List Int} (h : Lim 10 l) (hn : Norm l) : digs 10 (val 10 l).toNat = l := digs_eq (B := 10) (by omega) h hn
theorem digs_len {B : Nat} (hB : 1 < B) (n k : Nat) : (digs B n).length ≤ k ↔ n < B ^ k := by
 rw [len_le_iff (B := B) (by omega) (digs_lim hB n) (digs_norm hB n) k, digs_val hB]
 rw [← Int.natCast_pow]
 omega
theorem digs_nil {B : Nat} (hB : 1 < B) (n : Nat) : digs B n = [] ↔ n = 0 := by
 rw [← val_zero_iff (B := B) (by omega) (digs_lim hB n) (digs_norm hB n), digs_val hB]; omega
theorem pow9N (n : Nat) : (10 : Nat) ^ (9 * n) = 1000000000 ^ n := by rw [Nat.pow_mul]
def sv (s : Bool) (l : List Int) : Int := if s = true then - val 1000000000 l else val 1000000000 l
def bigN (z : Int) : Bool := decide (z < 0)
def bigL (z : Int) : List Int := digs 1000000000 z.natAbs
def U32 (l : List Int) : Prop := Lim 4294967296 l
theorem bigL_len (z : Int) (n : Nat) : (bigL z).length ≤ n ↔ z.natAbs < 1000000000 ^ n := digs_len (by omega) _ _
theorem bigL_nil (z : Int) : bigL z = [] ↔ z = 0 := by unfold bigL; rw [digs_nil (by omega)]; omega
end
section
def ints (k : IntKind) (l : List Int) : List (List FV) := l.map fun n => [FV.int k n]
theorem ints_len (k : IntKind) (l : List Int) : (ints k l).length = l.length := by simp [ints]
theorem ints_app (k : IntKind) (l m : List Int) : ints k l ++ ints k m = ints k (l ++ m) := by simp [ints]
theorem ints_snoc (k : IntKind) (l : List Int) (n : Int) : ints k l ++ [[FV.int k n]] = ints k (l ++ [n]) := by simp [ints]
theorem ints_take (k : IntKind) (l : List Int) (n : Nat) : (ints k l).take n = ints k (l.take n) := by simp [ints]
theorem ints_drop (k : IntKind) (l : List Int) (n : Nat) : (ints k l).drop n = ints k (l.drop n) := by simp [ints]
theorem ints_set (k : IntKind) (l : List Int) (i : Nat) (n : Int) : (ints k l).set i [FV.int k n] = ints k (l.set i n) := by simp [ints, List.map_set]
theorem ints_rep (k : IntKind) (m : Nat) (n : Int) : List.replicate m [FV.int k n] = ints k (List.replicate m n) := by simp [ints]
theorem ints_one (k : IntKind) (n : Int) : [[FV.int k n]] = ints k [n] := rfl
theorem ints_inj {k : IntKind} {l m : List Int} : ints k l = ints k m ↔ l = m := by
 constructor
 ·intro h
  have : ∀ (l m : List Int), ints k l = ints k m → l = m := by
   intro l
   induction l with
   | nil => intro m h; cases m with | nil => rfl | cons => cases h
   | cons x l ih =>
    intro m h
    cases m with
    | nil => cases h
    | cons y m =>
     simp only [ints, List.map_cons, List.cons.injEq, FV.int.injEq] at h
     rw [h.1.1.2, ih m h.2]
  exact this l m h
 ·rintro rfl; rfl
theorem ints_eq_nil {k : IntKind} {l : List Int} : ints k l = [] ↔ l = [] := ints_inj (m := [])
theorem ex_rd {k : IntKind} {l : List Int} {i : Nat} {Q : Int → Prop} : (∃ n : Int, (ints k l)[i]? = some [FV.int k n] ∧ Q n) ↔ (i < l.length ∧ Q (rd l i)) := by
 constructor
 ·rintro ⟨n, h, hq⟩
  simp only [ints, List.getElem?_map, Option.map_eq_some_iff, List.cons.injEq, FV.int.injEq] at h
  obtain ⟨x, hx, ⟨_, rfl⟩, _⟩ := h
  refine ⟨?_, by rw [rd_some hx]; exact hq⟩
  exact (List.getElem?_eq_some_iff.1 hx).1
 ·rintro ⟨h, hq⟩
  exact ⟨rd l i, by simp [ints, some_rd h], hq⟩
theorem dec_t (p : Prop) [Decidable p] (X : Prop) : ((decide p = true) → X) ↔ (p → X) := by simp
theorem dec_f (p : Prop) [Decidable p] (X : Prop) : ((decide p = false) → X) ↔ (¬ p → X) := by simp
theorem beq_t (a b : Int) (X : Prop) : (((a == b) = true) → X) ↔ (a = b → X) := by simp
theorem beq_f (a b : Int) (X : Prop) : (((a == b) = false) → X) ↔ (a ≠ b → X) := by simp
theorem bne_t (a b : Int) (X : Prop) : (((a != b) = true) → X) ↔ (a ≠ b → X) := by simp
theorem bne_f (a b : Int) (X : Prop) : (((a != b) = false) → X) ↔ (a = b → X) := by simp
theorem not_t (b : Bool) (X : Prop) : (((Bool.not b) = true) → X) ↔ (b = false → X) := by simp
theorem not_f (b : Bool) (X : Prop) : (((Bool.not b) = false) → X) ↔ (b = true → X) := by simp
theorem w64 {n : Int} (h0 : -9223372036854775808 ≤ n) (h1 : n ≤ 9223372036854775807) : IntKind.wrap .i64 n = n := IntWalk.i64_in n ⟨h0, h1⟩
theorem wu64 {n : Int} (h0 : 0 ≤ n) (h1 : n ≤ 18446744073709551615) : IntKind.wrap .u64 n = n := IntWalk.u64_in n ⟨h0, h1⟩
theorem wu32 {n : Int} (h0 : 0 ≤ n) (h1 : n ≤ 4294967295) : IntKind.wrap .u32 n = n := IntWalk.u32_in n ⟨h0, h1⟩
theorem wu8 {n : Int} (h0 : 0 ≤ n) (h1 : n ≤ 255) : IntKind.wrap .u8 n = n := IntWalk.u8_in n ⟨h0, h1⟩
theorem Wk_nil : Wk [] [] ↔ True := Iff.rfl
theorem Wk_cons (a b : Ob) (l m : List Ob) : Wk (a :: l) (b :: m) ↔ wk1 a b ∧ Wk l m := Iff.rfl
theorem wk1_same (a : Ob) : wk1 a a ↔ True := by simp [wk1.refl]
abbrev fzI (k : IntKind) (n : Int) : TV := .one (.fz (.int k n))
abbrev fzB (b : Bool) : TV := .one (.fz (.bool b))
abbrev fzS (k : IntKind) (l : List Int) : TV := .one (.fz (.sl 1 (ints k l)))
abbrev fzN (s : Bool) (l : List Int) : TV := .agg [.fz (.bool s), .fz (.sl 1 (ints .u32 l))]
theorem exR (v : TV) : ∃ R : TV → List Ob → Prop, R v [] ∧ (fun r' h' => r' = v ∧ h' = []) = R := ⟨_, ⟨rfl, rfl⟩, rfl⟩
end
section
def uArg : Option FV → List TV
 | none => []
 | some x => [.one (.fz x)]
def callD (P : Program) (g : FuncId) (u : Option FV) (vals : Array Value) (w : World) (R : Ending → World → Prop) : Prop :=
 match u with
 | none => CallsD P g vals .returning w fun e u' w' => settle u' = .returning ∧ R e w'
 | some _ => CallsD P g vals.pop (.panicking [{ v := vals.back?.getD undef, recovered := false }]) w fun e u' w' => settle u' = .returning ∧ R e w'
def FnDf (P : Program) (g : FuncId) (args : List TV) (h : List Ob) (u : Option FV) (h' : List Ob) : Prop := FnC P (callD P g u) isRet (args ++ uArg u) h (.one .und) h'
theorem callD_mono {P : Program} {g : FuncId} {u : Option FV} (vals : Array Value) (w : World) (R R' : Ending → World → Prop) (h : ∀ e w', R e w' → R' e w') (hc : callD P g u vals w R) : callD P g u vals w R' := by
 unfold callD at hc ⊢
 cases u <;> exact CallsD.mono hc fun e u' w' ⟨h1, h2⟩ => ⟨h1, h e w' h2⟩
def evCallDf (P : Program) (ss : List Sig) (g : FuncId) (args : List TV) (h : List Ob) (u : Option FV) (K : List Ob → Prop) : Prop :=
 match P.funcs[g]? with
 | some fn =>
  if fn.body.isSome = true ∧ (fn.name == "runtime.NumGoroutine") = false then
   match shareArgs h (shOf ss) args with
   | some (ags, rd) =>
    let ids := idsH h 64 0 (idsT ags [])
    if ids.Nodup ∧ (ids.all fun o => okOb (getO h o) && !rd.contains o) = true then
     orS (ss.filter fun S => S.n == ids.length) fun S => exOb S.obs fun obs => FnDf P g (ags.map (reT ids)) (ids.map fun o => reO ids (getO h o)) u obs ∧
      if ids.length ≤ obs.length then K (putOs h (zs h rd ++ backW ids h.length 0 obs)) else False
    else False
   | none => False
  else False
 | none => False
theorem shareArgs_snoc {h : List Ob} {x : FV} : ∀ {m : Nat} {ts rs : List TV} {i : List Nat}, shareArgs h m ts = some (rs, i) → shareArgs h m (ts ++ [.one (.fz x)]) = some (rs ++ [.one (.fz x)], i)
 | m, [], rs, i, hs => by
  cases hs
  simp only [List.nil_append, shareArgs]
  split
  ·rfl
  ·rfl
 | m, a :: r, rs, i, hs => by
  unfold shareArgs at hs
  simp only [List.cons_append]
  unfold shareArgs
  split at hs
  ·rename_i l j hl
   rw [shareArgs_snoc hl]
   simp only
   split at hs
   ·rename_i hp
    cases hs
    rw [if_pos hp]; rfl
   ·rename_i hp
    rw [if_neg hp]
    split at hs
    ·rename_i v i1 hv
     cases hs
     rfl
    ·cases hs
  ·cases hs
theorem shareArgs_u {h : List Ob} {u : Option FV} {m : Nat} {ts rs : List TV} {i : List Nat} (hs : shareArgs h m ts = some (rs, i)) : shareArgs h m (ts ++ uArg u) = some (rs ++ uArg u, i) := by
 cases u with
 | none => simpa [uArg] using hs
 | some x => exact shareArgs_snoc hs
def PtrAt (pin : Nat → Option Loc) (av : AV) (v : Value) : Prop :=
 ∃ o e c ty l ad, av = .ptr o e c ty ∧ pin o = some l ∧ l.a = some ad ∧ v = .pointer (some ⟨ad.block, ad.off + e * l.sz + c, none⟩)
def DefTold (pin : Nat → Option Loc) (d : Deferred) (p : FuncId × List AV) : Prop :=
 ∃ caps aus, d = { target := .fn (.func p.1) caps, args := aus } ∧ (aus ++ caps).size = p.2.length ∧ ∀ (k : Nat) (av : AV), p.2[k]? = some av → ∃ v, (aus ++ caps)[k]? = some v ∧ PtrAt pin av v
def resD (P : Program) (sig : FuncId → List Sig) (F : Func) (own : Option Nat) (R : TV → List Ob → Prop) : List (FuncId × List AV) → Option FV → St → Prop
 | [], none, st => resK P F own R st
 | [], some _, _ => False
 | (g, avs) :: r, u, st => evCallDf P (sig g) g (avs.map .one) st.h u fun h' => resD P sig F own R r none ⟨st.t, h'⟩
def uMode (u : Option FV) (v : Value) : FrameMode :=
 match u with
 | none => .returning
 | some _ => .panicking [{ v, recovered := false }]
def uSt (u : Option FV) (st : St) : St := ⟨st.t ++ uArg u, st.h⟩
def uAct (u : Option FV) (v : Value) (a : Act) : Act :=
 match u with
 | none => a
 | some _ => { a with tmps := a.tmps.push v }
section
variable {P : Program} {ext : Nat → Prop} {w0 : World} {own0 : Own0}
theorem uRep {u : Option FV} {st : St} {v : Value} {a : Act} {w : World} {own1 : Own0} (R : Rep P ext w0 own1 (uSt u st) (uAct u v a) w) : ∃ locs, RepH P ext w0 own1 locs st.h w ∧ (a.tmps.size = st.t.length ∧ (uAct u v a).defers = a.defers) ∧
  (∀ (i : Nat) (x : TV), st.t[i]? = some x → ∃ y, a.tmps[i]? = some y ∧ RT w (Bar ext locs st.h) locs x y) ∧ ∀ x, u = some x → RF w (Bar ext locs st.h) x v := by
 obtain ⟨locs, H, RTm⟩ := R.repT
 cases u with
 | none =>
  refine ⟨locs, H, ⟨by simpa [uSt, uArg, uAct] using R.size, rfl⟩, fun i x hx => ?_, by simp⟩
  exact RTm i x (by simpa [uSt, uArg] using hx)
 | some y =>
  have hs : a.tmps.size = st.t.length := by simpa [uSt, uArg, uAct] using R.size
  refine ⟨locs, H, ⟨hs, rfl⟩, fun i x hx => ?_, fun x hx => ?_⟩
  ·have hi : i < st.t.length := (List.getElem?_eq_some_iff.1 hx).1
   obtain ⟨z, hz, hr⟩ := RTm i x (by simp only [uSt]; rw [List.getElem?_append_left hi]; exact hx)
   refine ⟨z, ?_, hr⟩
   simp only [uAct] at hz
   rw [Array.getElem?_push, if_neg (by omega)] at hz
   exact hz
  ·cases hx
   obtain ⟨z, hz, hr⟩ := RTm st.t.length (.one (.fz y)) (by simp [uSt, uArg])
   simp only [uAct] at hz
   rw [Array.getElem?_push, if_pos hs.symm] at hz
   cases hz
   exact hr
theorem resD_ok {sig : FuncId → List Sig} {F : Func} {own : Option Nat} (hp : PinLt own0 (own.getD 0)) {G : TV → List Ob → Prop} {pin1 : Nat → Option Loc} {D1 : List Deferred} (hpin : ∀ (o : Nat) (x : Loc), own0.pin o = some x → pin1 o = some x) :
  ∀ (dfs : List (FuncId × List AV)) (D : List Deferred) (u : Option FV) (st : St) (v : Value) (a : Act) (w : World), D.length = dfs.length → (∀ (i : Nat) (d : Deferred) (p : FuncId × List AV), D[i]? = some d → dfs[i]? = some p → DefTold pin1 d p) →
   resD P sig F own G dfs u st → Rep P ext w0 ⟨own0.b, pin1, D1⟩ (uSt u st) (uAct u v a) w →
   Leaves P F a.tmps (fun e w' => ∃ v r' h' locs', G r' h' ∧ e = .returned v ∧ RepH P ext w0 own0 locs' h' w' ∧ RT w' (Bar ext locs' h') locs' r' v) D (uMode u v) w
 | [], D, u, st, v, a, w, hl, hD, hr, R => by
  have : D = [] := List.eq_nil_of_length_eq_zero hl
  subst this
  cases u with
  | some x => exact hr.elim
  | none =>
   obtain ⟨locs, H, ⟨hs, _⟩, RTm, _⟩ := uRep R
   have R0 : Rep P ext w0 own0 st { a with defers := own0.df } w := ⟨rfl, hs, locs, ⟨H.len, H.ob, H.apart, H.extOwn, H.extlt, H.ownOld, H.since, H.base, fun o x hx => H.pins o x (hpin o x hx), H.ownlt⟩, RTm⟩
   obtain ⟨v', r', h', locs', h1, h2, h3, h4⟩ := resK_ok hp hr R0
   exact ⟨v', h1, v', r', h', locs', h2, rfl, h3, h4⟩
 | p :: dfs, [], u, st, v, a, w, hl, hD, hr, R => by simp at hl
 | (g, avs) :: dfs, d :: D, u, st, v, a, w, hl, hD, hr, R => by
  obtain ⟨caps, aus, rfl, hsz, hav⟩ := hD 0 d (g, avs) rfl rfl
  simp only at hsz hav
  unfold resD evCallDf at hr
  split at hr
  ·rename_i fn hfn
   split at hr
   ·rename_i hc
    obtain ⟨hb, hnm⟩ := hc
    split at hr
    ·rename_i ags rd hs
     simp only at hr
     split at hr
     ·rename_i hcond
      obtain ⟨hn, hok⟩ := hcond
      obtain ⟨S, hr⟩ := orS_out hr
      obtain ⟨obs, ⟨Fd, hk⟩, hrs⟩ := exOb_out hr
      split at hk
      ·rename_i hlen
       generalize idsH st.h 64 0 (idsT ags []) = ids at *
       obtain ⟨locs, H, ⟨hts, hdf⟩, RTm, hx⟩ := uRep R
       have hmu : uMode u v ≠ .run := by cases u <;> simp [uMode]
       let vals : Array Value := match u with | none => aus ++ caps | some _ => (aus ++ caps).push v
       have hvsz : vals.size = (avs.map TV.one ++ uArg u).length := by
        cases u <;> simp [vals, uArg] <;> simp at hsz <;> omega
       have hrep : ∀ (i : Nat) (x : TV), (avs.map TV.one ++ uArg u)[i]? = some x → ∃ y, vals[i]? = some y ∧ RT w (Bar ext locs st.h) locs x y := by
        intro i x hi
        by_cases hlt : i < avs.length
        ·rw [List.getElem?_append_left (by simpa using hlt), List.getElem?_map, Option.map_eq_some_iff] at hi
         obtain ⟨av, h1, rfl⟩ := hi
         obtain ⟨y, h2, o, e, c, ty, l, ad, rfl, h3, h4, rfl⟩ := hav i av h1
         refine ⟨_, ?_, l, ad, H.pins o l h3, h4, rfl⟩
         cases u with
         | none => exact h2
         | some z =>
          simp only [vals]
          rw [Array.getElem?_push, if_neg (by omega)]
          exact h2
        ·rw [List.getElem?_append_right (by simpa using hlt)] at hi
         cases u with
         | none => simp [uArg] at hi
         | some z =>
          simp only [uArg, List.length_map] at hi
          have hi0 : i - avs.length = 0 := by
           rcases Nat.eq_zero_or_pos (i - avs.length) with h' | h'
           ·exact h'
           ·rw [List.getElem?_eq_none (by simp; omega)] at hi; cases hi
          rw [hi0] at hi
          cases hi
          refine ⟨v, ?_, hx z rfl⟩
          simp only [vals]
          rw [Array.getElem?_push, if_pos (by omega)]
       have hru : (uArg u).map (reT ids) = uArg u := by cases u <;> rfl
       have Fd' : FnC P (callD P g u) isRet ((ags ++ uArg u).map (reT ids)) (ids.map fun o => reO ids (getO st.h o)) (toTV [(false, [.und])]) obs := by
        rw [List.map_append, hru]; exact Fd
       have key := callS_core (C := callD P g u) (E := isRet) (id := st.h.length) (fun vals w R R' => callD_mono vals w R R') H (shareArgs_u (u := u) hs) hn hok hrs hlen (Nat.le_refl _) (fun j _ => H.len _ (Nat.le_add_right _ _)) Fd' hvsz hrep
       have fin : ∀ (e : Ending) (w' : World) (vr : Value) (locs' : Locs), isRet e vr → RepH P ext w0 ⟨own0.b, pin1, D1⟩ locs' (putOs st.h (zs st.h rd ++ backW ids st.h.length 0 obs)) w' →
         Later w (Bar ext locs st.h) w' (Bar ext locs' (putOs st.h (zs st.h rd ++ backW ids st.h.length 0 obs))) → (∀ (o : Nat) (x : Loc), locs o = some x → locs' o = some x) →
         Leaves P F a.tmps (fun e w' => ∃ v r' h' locs', G r' h' ∧ e = .returned v ∧ RepH P ext w0 own0 locs' h' w' ∧ RT w' (Bar ext locs' h') locs' r' v) D .returning w' := by
        intro e w' vr locs' _ H' lt hlo
        refine resD_ok (D1 := D1) hp hpin dfs D none ⟨st.t, putOs st.h (zs st.h rd ++ backW ids st.h.length 0 obs)⟩ undef { a with defers := D1 } w' (by simpa using hl) (fun i d p h1 h2 => hD (i + 1) d p h1 h2) hk ?_
        exact ⟨rfl, by simpa [uSt, uArg, uAct] using hts, locs', H', fun i x hx => by
         obtain ⟨y, hy, hr⟩ := RTm i x (by simpa [uSt, uArg] using hx)
         exact ⟨y, hy, hr.later lt hlo⟩⟩
       refine leaves_cons hmu (f := g) (args := aus ++ caps) ?_ ?_
       ·show (callFunc g (aus ++ caps)).run P w = _
        exact run_callFunc hfn hb hnm _ _
       ·unfold callD at key
        cases u with
        | none =>
         simp only [vals] at key
         refine CallsD.mono key ?_
         rintro e u' w' ⟨hu, vr, locs', he, H', lt, hlo, _⟩
         cases he
         simp only
         rw [hu]
         exact fin _ w' vr locs' rfl H' lt hlo
        | some z =>
         simp only [vals, Array.pop_push, Array.back?_push, Option.getD_some] at key
         refine CallsD.mono key ?_
         rintro e u' w' ⟨hu, vr, locs', he, H', lt, hlo, _⟩
         cases he
         simp only
         rw [hu]
         exact fin _ w' vr locs' rfl H' lt hlo
      ·exact hk.elim
     ·exact hr.elim
    ·exact hr.elim
   ·exact hr.elim
  ·exact hr.elim
end
def ptrsOf (t : List TV) : List Operand → Option (List AV)
 | [] => some []
 | x :: r => match ev t x, ptrsOf t r with
  | .one (.ptr o e c ty), some l => some (.ptr o e c ty :: l)
  | _, _ => none
def dfOp (o : Oper) : Bool := match o.op with | .defer _ => true | _ => false
def dfReg : Code → Option (List Oper)
 | .region _ ops false => if (ops.toList.getLast?).any dfOp = true then some ops.toList else none
 | _ => none
def hasDf : Code → Bool
 | .seq a b => (dfReg a).isSome || hasDf b
 | _ => false
def evDefer (ops : List Oper) (st : St) : Option ((FuncId × List AV) × St) :=
 match ops with
 | [m, d] =>
  match m.dst, m.op, m.guard, d.dst, d.op, d.guard with
  | some k, .makeFunc (.func g) first caps, none, none, .defer { callee := .value (.tmp k'), args := args, argTypes := _ }, none =>
   if k = k' ∧ first = #[] ∧ args = #[] ∧ k < st.t.length then
    match ptrsOf st.t caps.toList with
    | some avs => some ((g, avs), ⟨st.t.set k .und, st.h⟩)
    | none => none
   else none
  | _, _, _, _, _, _ => none
 | [d] =>
  match d.dst, d.op, d.guard with
  | none, .defer { callee := .value (.func g), args := args, argTypes := _ }, none =>
   match ptrsOf st.t args.toList with
   | some avs => some ((g, avs), st)
   | none => none
  | _, _, _ => none
 | _ => none
def Mode.df (P : Program) (M : Mode) (F : Func) (own : Option Nat) (R : TV → List Ob → Prop) (n : Nat) (cur : List (FuncId × List AV)) : Mode :=
 ⟨M.own, M.sig, if cur.isEmpty then own.getD 0 else n, M.mp, fun x st => resD P M.sig F own R cur (some x) ⟨st.t, st.h⟩, M.cl⟩
def trSp (P : Program) (M : Mode) (lv : List Nat → Keep) (F : Func) (own : Option Nat) (R : TV → List Ob → Prop) (n : Nat) (cur : List (FuncId × List AV)) (p : List Nat) (c : Code) : SP :=
 if hasDf c = true then
  match c with
  | .seq a b =>
   match dfReg a with
   | some ops => fun st =>
    match evDefer ops st with
    | some (d, st') => if st.h.length = n then trSp P M lv F own R n (d :: cur) (1 :: p) b st' else False
    | none => False
   | none => tr P (M.df P F own R n cur) lv (0 :: p) a (trSp P M lv F own R n cur (1 :: p) b) (fun _ _ => False) (resD P M.sig F own R cur none)
  | _ => fun _ => False
 else tr P (M.df P F own R n cur) lv p c (resD P M.sig F own R cur none) (fun _ _ => False) (resD P M.sig F own R cur none)
def trFD (P : Program) (M : Mode) (lv : List Nat → Keep) (F : Func) (own : Option Nat) (n : Nat) (args : List TV) (h : List Ob) (R : TV → List Ob → Prop) : Prop :=
 match F.body with
 | some c => trSp P M lv F own R n [] [] c ⟨args ++ List.replicate (F.ntmps - args.length) .und, h⟩
 | none => False
def LoopAtD (P : Program) (M : Mode) (lv : List Nat → Keep) (F : Func) (own : Option Nat) (R : TV → List Ob → Prop) (n : Nat) (cur : List (FuncId × List AV)) (path : List Nat) (st : St) : Prop :=
 match F.body with
 | some c => walk P (M.df P F own R n cur) lv path [] c (resD P M.sig F own R cur none) (fun _ _ => False) (resD P M.sig F own R cur none) fun p c kn ke kr => match c with
  | .loop c => LoopJ P (M.df P F own R n cur) c ke kr st
  | _ => False
 | none => False
def RoundD (P : Program) (M : Mode) (lv : List Nat → Keep) (F : Func) (own : Option Nat) (R : TV → List Ob → Prop) (n : Nat) (cur : List (FuncId × List AV)) (path : List Nat) (st : St) : Prop :=
 match F.body with
 | some c => walk P (M.df P F own R n cur) lv path [] c (resD P M.sig F own R cur none) (fun _ _ => False) (resD P M.sig F own R cur none) fun p c kn ke kr => match c with
  | .loop c => tr P (M.df P F own R n cur) lv (0 :: p) c (fun st' => LoopJ P (M.df P F own R n cur) c ke kr (norm (M.df P F own R n cur).pin (lv p) st')) ke kr st
  | _ => False
 | none => False
theorem LoopAtD.intro {P : Program} {M : Mode} {lv : List Nat → Keep} {F : Func} {own : Option Nat} {R : TV → List Ob → Prop} {n : Nat} {cur : List (FuncId × List AV)} {path : List Nat} {st : St} (hm : P.follows .mixedOrders = true) (h : RoundD P M lv F own R n cur path st) : LoopAtD P M lv F own R n cur path st := by
 unfold RoundD at h
 unfold LoopAtD
 split
 ·rename_i c hc
  rw [hc] at h
  refine walk_imp (fun p c kn ke kr h => ?_) path _ _ _ _ _ h
  cases c <;> first | exact LoopJ.intro (M := M.df P F own R n cur) hm _ _ h | exact h
 ·rename_i hc
  rw [hc] at h
  exact h
theorem LoopAtD.by_tr {P : Program} {M : Mode} {lv : List Nat → Keep} {F : Func} {own : Option Nat} {R : TV → List Ob → Prop} {n : Nat} {cur : List (FuncId × List AV)} {path : List Nat} {st : St} {X : Prop} (hm : P.follows .mixedOrders = true) (he : RoundD P M lv F own R n cur path st = X) (H : X) : LoopAtD P M lv F own R n cur path st :=
 LoopAtD.intro hm (Eq.mpr he H)
section
variable {P : Program} {ext : Nat → Prop} {w0 : World} {own0 : Own0}
theorem ptrsOf_ok {t : List TV} {h : List Ob} {locs : Locs} {w : World} {a : Act} (RTm : RepT w (Bar ext locs h) locs t a) : ∀ {xs : List Operand} {avs : List AV}, ptrsOf t xs = some avs → xs.length = avs.length ∧ ∀ (k : Nat) (av : AV), avs[k]? = some av → ∃ v, (xs.map a.eval)[k]? = some v ∧ PtrAt locs av v
 | [], avs, hh => by cases hh; exact ⟨rfl, by simp⟩
 | x :: r, avs, hh => by
  unfold ptrsOf at hh
  split at hh
  ·rename_i o e c ty l hx hl
   cases hh
   obtain ⟨h1, h2⟩ := ptrsOf_ok RTm hl
   refine ⟨by simp [h1], fun k av hk => ?_⟩
   cases k with
   | zero =>
    cases hk
    have hr := ev_rep RTm x
    rw [hx] at hr
    obtain ⟨lc, d, g1, g2, g3⟩ := hr
    exact ⟨_, rfl, o, e, c, ty, lc, d, rfl, g1, g2, g3⟩
   | succ k => exact h2 k av hk
  ·cases hh
theorem evDefer_ok {ops : List Oper} {st st' : St} {d : FuncId × List AV} (he : evDefer ops st = some (d, st')) {a : Act} {w : World} (R : Rep P ext w0 own0 st a w) {id : Nat} {Q : Exit → Act → World → Prop}
  (hQ : ∀ (locs : Locs) (dd : Deferred) (a' : Act), RepH P ext w0 own0 locs st.h w → DefTold locs dd d → a'.defers = dd :: own0.df → a'.tmps.size = st'.t.length → st'.h = st.h → (∀ (i : Nat) (x : TV), st'.t[i]? = some x → ∃ v, a'.tmps[i]? = some v ∧ RT w (Bar ext locs st'.h) locs x v) → Q .normal a' w) :
  (Code.region id ops.toArray false).wp P Q a w := by
 obtain ⟨locs, H, RTm⟩ := R.repT
 unfold evDefer at he
 split at he
 ·rename_i m dd
  split at he
  ·rename_i k g first caps k' args _ hk hm hg hd hdo hdg
   split at he
   ·rename_i hc
    obtain ⟨rfl, rfl, rfl, hkl⟩ := hc
    split at he
    ·rename_i avs hp
     cases he
     obtain ⟨h1, h2⟩ := ptrsOf_ok (ext := ext) (h := st.h) RTm hp
     refine wp_region ?_
     show wpOps P #[m, dd] Q [0, 1] a w
     unfold wpOps
     simp only [List.getElem?_toArray, List.getElem?_cons_zero]
     have hw : Region.wanted m (yielded #[m, dd] a.tmps) = true := by unfold Region.wanted; rw [hg]
     rw [if_pos hw]
     left
     have hks : k < a.tmps.size := by rw [R.size]; exact hkl
     refine wp_value (v := .func (.func g) #[] (caps.map a.eval)) (w' := w) (by unfold execOp; rw [hm]; simp [Instr.makeFunc]) ?_
     unfold wpOps
     simp only [List.getElem?_toArray, List.getElem?_cons_succ, List.getElem?_cons_zero]
     have hw2 : ∀ f, Region.wanted dd f = true := by intro f; unfold Region.wanted; rw [hdg]
     rw [if_pos (hw2 _)]
     left
     have hev : (a.put m.dst (.func (.func g) #[] (caps.map a.eval))).eval (.tmp k) = .func (.func g) #[] (caps.map a.eval) := by
      rw [hk]
      simp [Act.put, Act.eval, hks]
     have hrun : (execOp (a.put m.dst (.func (.func g) #[] (caps.map a.eval))).eval dd).run P w = .ok (.defer { target := .fn (.func g) (caps.map a.eval), args := #[] }) w := by
      unfold execOp
      rw [hdo]
      simp [resolve, hev, Deferred.ofValue]
     unfold Oper.wp
     rw [hrun]
     simp only [Oper.upon_defer]
     unfold wpOps
     refine hQ locs { target := .fn (.func g) (caps.map a.eval), args := #[] } _ H ⟨caps.map a.eval, #[], rfl, by simpa using h1, fun k av hk => ?_⟩ ?_ ?_ rfl (fun i x hx => ?_)
     ·obtain ⟨v, h3, h4⟩ := h2 k av hk
      exact ⟨v, by simpa using h3, h4⟩
     ·rw [hd, hk]
      simp only [Act.put]
      rw [R.defers]
     ·rw [hd, hk]
      simp only [Act.put, Array.size_setIfInBounds, List.length_set]
      exact R.size
     ·rw [hd, hk]
      simp only [Act.put]
      simp only at hx
      rw [List.getElem?_set] at hx
      by_cases e : k = i
      ·subst e
       rw [if_pos rfl, if_pos hkl] at hx
       cases hx
       exact ⟨_, by rw [Array.getElem?_setIfInBounds_self_of_lt hks], trivial⟩
      ·rw [if_neg e] at hx
       obtain ⟨u, hu, hr⟩ := RTm i x hx
       exact ⟨u, by rw [Array.getElem?_setIfInBounds_ne e]; exact hu, hr⟩
    ·cases he
   ·cases he
  ·cases he
 ·rename_i dd
  split at he
  ·rename_i g args _ hd hdo hdg
   split at he
   ·rename_i avs hp
    cases he
    obtain ⟨h1, h2⟩ := ptrsOf_ok (ext := ext) (h := st.h) RTm hp
    refine wp_region ?_
    show wpOps P #[dd] Q [0] a w
    unfold wpOps
    simp only [List.getElem?_toArray, List.getElem?_cons_zero]
    have hw2 : ∀ f, Region.wanted dd f = true := by intro f; unfold Region.wanted; rw [hdg]
    rw [if_pos (hw2 _)]
    left
    have hrun : (execOp a.eval dd).run P w = .ok (.defer { target := .fn (.func g) #[], args := args.map a.eval }) w := by
     unfold execOp
     rw [hdo]
     simp [resolve, Act.eval, Deferred.ofValue]
    unfold Oper.wp
    rw [hrun]
    simp only [Oper.upon_defer]
    unfold wpOps
    refine hQ locs { target := .fn (.func g) #[], args := args.map a.eval } _ H ⟨#[], args.map a.eval, rfl, by simpa using h1, fun k av hk => ?_⟩ ?_ ?_ rfl (fun i x hx => ?_)
    ·obtain ⟨v, h3, h4⟩ := h2 k av hk
     exact ⟨v, by simpa using h3, h4⟩
    ·rw [hd]
     simp only [Act.put]
     rw [R.defers]
    ·rw [hd]
     exact R.size
    ·rw [hd]
     exact RTm i x hx
   ·cases he
  ·cases he
 ·cases he
end
end
section
section
variable {P : Program} {ext : Nat → Prop} {w0 : World} {own0 : Own0}
def EndG (P : Program) (ext : Nat → Prop) (w0 : World) (own0 : Own0) (G : TV → List Ob → Prop) (e : Ending) (w' : World) : Prop :=
 ∃ v r' h' locs', G r' h' ∧ e = .returned v ∧ RepH P ext w0 own0 locs' h' w' ∧ RT w' (Bar ext locs' h') locs' r' v
theorem qk_post {M : Mode} {F : Func} {own : Option Nat} (hp : PinLt own0 (own.getD 0)) {G : TV → List Ob → Prop} {pin1 : Nat → Option Loc} {D : List Deferred} (hpin : ∀ (o : Nat) (x : Loc), own0.pin o = some x → pin1 o = some x) {n : Nat}
  {cur : List (FuncId × List AV)} (hl : D.length = cur.length) (hD : ∀ (i : Nat) (d : Deferred) (p : FuncId × List AV), D[i]? = some d → cur[i]? = some p → DefTold pin1 d p) (e : Exit) (a : Act) (w : World)
  (hq : QK P (M.df P F own G n cur) ext w0 ⟨own0.b, pin1, D⟩ (resD P M.sig F own G cur none) (fun _ _ => False) (resD P M.sig F own G cur none) e a w) : bodyPostD P F (EndG P ext w0 own0 G) e a w := by
 have ret : ∀ st, resD P M.sig F own G cur none st → Rep P ext w0 ⟨own0.b, pin1, D⟩ st a w → Leaves P F a.tmps (EndG P ext w0 own0 G) a.defers .returning w := by
  intro st hk R
  have h1 := resD_ok (D1 := D) hp hpin cur D none st undef a w hl hD hk (by simpa [uSt, uArg, uAct] using R)
  rw [show a.defers = D from R.defers]
  exact h1
 cases e with
 | normal => obtain ⟨st, hk, R⟩ := hq; exact ret st hk R
 | ret => obtain ⟨st, hk, R⟩ := hq; exact ret st hk R
 | exit i => obtain ⟨st, hk, _⟩ := hq; exact hk.elim
 | panic ch =>
  obtain ⟨v, x, st, rfl, hk, R⟩ := hq
  have h1 := resD_ok (D1 := D) hp hpin cur D (some x) st v a w hl hD hk (by simpa [uSt, uArg, uAct] using R)
  have hd : a.defers = D := R.defers
  show Leaves P F a.tmps (EndG P ext w0 own0 G) a.defers _ w
  rw [hd]
  exact h1
 | _ => exact hq.elim
theorem trSp_ok {M : Mode} {lv : List Nat → Keep} {F : Func} {own : Option Nat} (hm : P.follows .mixedOrders = true) (hp : PinLt own0 (own.getD 0)) {G : TV → List Ob → Prop} {n : Nat} : ∀ (c : Code) (p : List Nat) (cur : List (FuncId × List AV)) (D : List Deferred) (pin1 : Locs) (st : St) (a : Act) (w : World),
  D.length = cur.length → (∀ (i : Nat) (d : Deferred) (p : FuncId × List AV), D[i]? = some d → cur[i]? = some p → DefTold pin1 d p) → PinLt ⟨own0.b, pin1, D⟩ (M.df P F own G n cur).pin → (∀ (o : Nat) (x : Loc), own0.pin o = some x → pin1 o = some x) →
  trSp P M lv F own G n cur p c st → Rep P ext w0 ⟨own0.b, pin1, D⟩ st a w → c.wp P (bodyPostD P F (EndG P ext w0 own0 G)) a w := by
 intro c
 induction c with
 | seq x y ihx ihy =>
  intro p cur D pin1 st a w hl hD hpl hpin h R
  unfold trSp at h
  split at h
  ·simp only at h
   cases hops : dfReg x with
   | some ops =>
    simp only [hops] at h
    split at h
    ·rename_i d st' he
     split at h
     ·rename_i hn
      have hx : ∃ id, x = .region id ops.toArray false := by
       unfold dfReg at hops
       split at hops
       ·split at hops
        ·rename_i id0 ops0 _ _
         cases hops; exact ⟨id0, by simp⟩
        ·cases hops
       ·cases hops
      obtain ⟨id, rfl⟩ := hx
      refine wp_seq (evDefer_ok he R ?_)
      intro locs dd a' H hdt hdf hsz hh hsl
      refine ihy _ (d :: cur) (dd :: D) locs st' a' w (by simp [hl]) (fun i d' p' h1 h2 => ?_) ?_ (fun o x hx => H.pins o x (hpin o x hx)) h ⟨hdf, hsz, locs, ?_, hsl⟩
      ·cases i with
       | zero => cases h1; cases h2; exact hdt
       | succ i =>
        obtain ⟨caps, aus, g1, g2, g3⟩ := hD i d' p' h1 h2
        refine ⟨caps, aus, g1, g2, fun k av hk => ?_⟩
        obtain ⟨v, g4, o, e, c, ty, l, ad, g5, g6, g7⟩ := g3 k av hk
        exact ⟨v, g4, o, e, c, ty, l, ad, g5, H.pins o l g6, g7⟩
      ·intro o x hx
       show o < n
       rcases Nat.lt_or_ge o n with h1 | h1
       ·exact h1
       ·have := H.len o (by rw [hn]; exact h1)
        rw [show locs o = some x from hx] at this; cases this
      ·rw [hh]
       exact ⟨H.len, H.ob, H.apart, H.extOwn, H.extlt, H.ownOld, H.since, H.base, fun o x hx => hx, H.ownlt⟩
     ·exact h.elim
    ·exact h.elim
   | none =>
    simp only [hops] at h
    refine wp_seq (wp_mono (tr_ok (M := M.df P F own G n cur) hm hpl x _ _ _ _ _ _ _ h R) fun e a' w' hq => ?_)
    cases e with
    | normal =>
     obtain ⟨st', hk, R'⟩ := hq
     exact ihy _ cur D pin1 st' a' w' hl hD hpl hpin hk R'
    | exit i => obtain ⟨st', hk, _⟩ := hq; exact hk.elim
    | ret => exact qk_post (n := n) hp hpin hl hD .ret a' w' hq
    | panic ch => exact qk_post (n := n) hp hpin hl hD (.panic ch) a' w' hq
    | _ => exact hq.elim
  ·exact wp_mono (tr_ok (M := M.df P F own G n cur) hm hpl _ _ _ _ _ _ _ _ h R) fun e a' w' hq => qk_post (n := n) hp hpin hl hD e a' w' hq
 | _ =>
  intro p cur D pin1 st a w hl hD hpl hpin h R
  unfold trSp at h
  split at h
  ·exact h.elim
  ·exact wp_mono (tr_ok (M := M.df P F own G n cur) hm hpl _ _ _ _ _ _ _ _ h R) fun e a' w' hq => qk_post (n := n) hp hpin hl hD e a' w' hq
end
theorem rep0 {P : Program} {ext : Nat → Prop} {w : World} {locs : Locs} {args : List TV} {h : List Ob} {vals : Array Value} (H : RepH P ext w ⟨ownB locs h, locs, []⟩ locs h w) (hsz : vals.size = args.length) (hrep : ∀ (i : Nat) (x : TV), args[i]? = some x → ∃ v, vals[i]? = some v ∧ RT w (Bar ext locs h) locs x v) (m : Nat) :
  Rep P ext w ⟨ownB locs h, locs, []⟩ ⟨args ++ List.replicate (m - args.length) .und, h⟩ { tmps := vals ++ Array.replicate (m - vals.size) undef, defers := [] } w := by
 refine ⟨rfl, by simp [hsz], locs, H, fun i x hx => ?_⟩
 simp only at hx
 by_cases hi : i < args.length
 ·rw [List.getElem?_append_left hi] at hx
  obtain ⟨v, hv, hr⟩ := hrep i x hx
  exact ⟨v, by rw [Array.getElem?_append_left (by omega)]; exact hv, hr⟩
 ·rw [List.getElem?_append_right (by omega), List.getElem?_replicate] at hx
  split at hx
  ·cases hx
   refine ⟨undef, ?_, trivial⟩
   rw [Array.getElem?_append_right (by omega)]
   simp only [Array.getElem?_replicate]
   rw [if_pos (by omega)]
  ·cases hx
theorem pin0 {P : Program} {ext : Nat → Prop} {w : World} {locs : Locs} {h : List Ob} (H : RepH P ext w ⟨ownB locs h, locs, []⟩ locs h w) {n : Nat} (hn : h.length ≤ n) : PinLt ⟨ownB locs h, locs, []⟩ n := by
 intro o x hx
 rcases Nat.lt_or_ge o h.length with h1 | h1
 ·omega
 ·have := H.len o h1
  rw [show locs o = some x from hx] at this; cases this
theorem Fn.of_trD {P : Program} {M : Mode} {lv : List Nat → Keep} {f : FuncId} {F : Func} {own : Option Nat} {n : Nat} {args : List TV} {h : List Ob} {r : TV} {h' : List Ob} (hm : P.follows .mixedOrders = true) (hf : P.funcs[f]? = some F) (hn : h.length ≤ own.getD 0)
  (ht : trFD P M lv F own n args h fun r' h'' => r' = r ∧ Wk h'' h') : Fn P f args h r h' := by
 intro ext w locs vals H hsz hrep
 unfold trFD at ht
 split at ht
 ·rename_i c hc
  refine (calls_of_wp_defers hf hc (trSp_ok (own0 := ⟨ownB locs h, locs, []⟩) hm (pin0 H hn) c _ [] [] locs _ _ _ rfl (by simp) (pin0 H hn) (fun _ _ h => h) ht (rep0 H hsz hrep _))).mono ?_
  rintro e w' ⟨v, r', h'', locs', ⟨rfl, k⟩, h2, h3, h4⟩
  obtain ⟨g1, g2⟩ := h3.weak k
  exact ⟨v, locs', h2, g1, by rw [show Bar ext locs' h' = Bar ext locs' h'' from funext fun b => propext (g2 b)]; exact h4⟩
 ·exact ht.elim
theorem Fn.by_trD {P : Program} {M : Mode} {lv : List Nat → Keep} {f : FuncId} {F : Func} {own : Option Nat} {n : Nat} {args : List TV} {h : List Ob} {r : TV} {h' : List Ob} {X : Prop} (hm : P.follows .mixedOrders = true) (hf : P.funcs[f]? = some F) (hn : h.length ≤ own.getD 0)
  (he : (trFD P M lv F own n args h fun r' h'' => r' = r ∧ Wk h'' h') = X) (H : X) : Fn P f args h r h' := Fn.of_trD hm hf hn (Eq.mpr he H)
def recOf : Code → Option (Nat × Nat × Code)
 | .seq (.region _ ops false) c =>
  match ops.toList with
  | [r, s] =>
   match r.dst, r.op, r.guard, s.dst, s.op, s.guard with
   | some d1, .call { callee := .builtin .recover, args := args, argTypes := _ }, none, some d2, .assign (.tmp d1'), none => if d1 = d1' ∧ args = #[] then some (d1, d2, c) else none
   | _, _, _, _, _, _ => none
  | _ => none
 | _ => none
def trFR (P : Program) (M : Mode) (lv : List Nat → Keep) (F : Func) (own : Option Nat) (args : List TV) (h : List Ob) (u : Option FV) (R : TV → List Ob → Prop) : Prop :=
 match F.body with
 | some c =>
  match recOf c with
  | some (d1, d2, c') =>
   let y : TV := match u with | none => .one (.fz (.ifc false)) | some x => .one (.fz x)
   let t := args ++ List.replicate (F.ntmps - args.length) .und
   if d1 < t.length ∧ d2 < t.length then tr P (M.at own) lv [1] c' (resK P F own R) (fun _ _ => False) (resK P F own R) ⟨(t.set d1 y).set d2 y, h⟩ else False
  | none => False
 | none => False
theorem set_slot {w : World} {B : Nat → Prop} {locs : Locs} {t : List TV} {tm : Array Value} (hs : tm.size = t.length) (hr : ∀ (i : Nat) (x : TV), t[i]? = some x → ∃ v, tm[i]? = some v ∧ RT w B locs x v) {d : Nat} (hd : d < t.length) {y : TV} {v : Value} (hy : RT w B locs y v) :
  ∀ (i : Nat) (x : TV), (t.set d y)[i]? = some x → ∃ u, (tm.setIfInBounds d v)[i]? = some u ∧ RT w B locs x u := by
 intro i x hx
 rw [List.getElem?_set] at hx
 by_cases e : d = i
 ·subst e
  rw [if_pos rfl, if_pos hd] at hx
  cases hx
  exact ⟨v, by rw [Array.getElem?_setIfInBounds_self_of_lt (by omega)], hy⟩
 ·rw [if_neg e] at hx
  obtain ⟨u, hu, hr⟩ := hr i x hx
  exact ⟨u, by rw [Array.getElem?_setIfInBounds_ne e]; exact hu, hr⟩
theorem FnDf.of_trR {P : Program} {M : Mode} {lv : List Nat → Keep} {f : FuncId} {F : Func} {own : Option Nat} {args : List TV} {h : List Ob} {u : Option FV} {h' : List Ob} (hm : P.follows .mixedOrders = true) (hf : P.funcs[f]? = some F) (hn : h.length ≤ own.getD 0)
  (hk : ∀ x st, M.kp x st → False) (ht : trFR P M lv F own args h u fun _ h'' => Wk h'' h') : FnDf P f args h u h' := by
 intro ext w locs vals H hsz hrep
 unfold trFR at ht
 split at ht
 ·rename_i c hc
  split at ht
  ·rename_i d1 d2 c' hrc
   simp only at ht
   split at ht
   ·rename_i hd
    have hcode : ∃ id r s aty1, c = .seq (.region id #[r, s] false) c' ∧ r.dst = some d1 ∧ r.op = .call { callee := .builtin .recover, args := #[], argTypes := aty1 } ∧ r.guard = none ∧ s.dst = some d2 ∧ s.op = .assign (.tmp d1) ∧ s.guard = none := by
     unfold recOf at hrc
     split at hrc
     ·rename_i id ops c0
      split at hrc
      ·rename_i r s hops
       split at hrc
       ·rename_i e1 args0 aty g1 e2 g2 g3 q1 q2 q3 q4 q5 q6
        split at hrc
        ·rename_i hcc
         obtain ⟨rfl, rfl⟩ := hcc
         cases hrc
         have : ops = #[r, s] := Array.ext' (by simpa using hops)
         subst this
         exact ⟨id, r, s, _, rfl, q1, q2, q3, q4, q5, q6⟩
        ·cases hrc
       ·cases hrc
      ·cases hrc
     ·cases hrc
    obtain ⟨id, r, s, aty1, rfl, hr1, hr2, hr3, hs1, hs2, hs3⟩ := hcode
    have body : ∀ (av : Array Value) (y : TV) (v : Value) (u0 u1 : FrameMode), av.size = args.length → (∀ (i : Nat) (x : TV), args[i]? = some x → ∃ z, av[i]? = some z ∧ RT w (Bar ext locs h) locs x z) → RT w (Bar ext locs h) locs y v → settle u1 = .returning →
      tr P (M.at own) lv [1] c' (resK P F own fun _ h'' => Wk h'' h') (fun _ _ => False) (resK P F own fun _ h'' => Wk h'' h') ⟨((args ++ List.replicate (F.ntmps - args.length) TV.und).set d1 y).set d2 y, h⟩ →
      (∀ (c₀ : Frame) (cs : List Frame), c₀.mode = u0 → recoverD (c₀ :: cs) = (match u0 with | .panicking _ => some (v, { c₀ with mode := u1 } :: cs) | _ => none) ∧ ((∀ l, u0 ≠ .panicking l) → v = .nilIface ∧ u1 = u0)) →
      CallsD P f av u0 w fun e u' w' => settle u' = .returning ∧ ∃ v locs', isRet e v ∧ RepH P ext w ⟨ownB locs h, locs, []⟩ locs' h' w' ∧ RT w' (Bar ext locs' h') locs' (TV.one AV.und) v := by
     intro av y v u0 u1 hav harep hy hset htr hrec
     have R0 := rep0 H hav harep F.ntmps
     obtain ⟨locs0, H0, RT0⟩ := R0.repT
     refine callsD_of_wpS hf hc fun c₀ cs hmode => ?_
     obtain ⟨hrd, hnp⟩ := hrec c₀ cs hmode
     have hsz0 : (av ++ Array.replicate (F.ntmps - av.size) undef).size = (args ++ List.replicate (F.ntmps - args.length) TV.und).length := by simp [hav]
     have Rb : Rep P ext w ⟨ownB locs h, locs, []⟩ ⟨((args ++ List.replicate (F.ntmps - args.length) TV.und).set d1 y).set d2 y, h⟩ { tmps := ((av ++ Array.replicate (F.ntmps - av.size) undef).setIfInBounds d1 v).setIfInBounds d2 v, defers := [] } w := by
      refine ⟨rfl, by simp [hav], locs, H, ?_⟩
      refine set_slot (by simp [hav]) (set_slot hsz0 ?_ hd.1 hy) (by simpa using hd.2) hy
      intro i x hx
      by_cases hi : i < args.length
      ·rw [List.getElem?_append_left hi] at hx
       obtain ⟨v, hv, hr⟩ := harep i x hx
       exact ⟨v, by rw [Array.getElem?_append_left (by omega)]; exact hv, hr⟩
      ·rw [List.getElem?_append_right (by omega), List.getElem?_replicate] at hx
       split at hx
       ·cases hx
        refine ⟨undef, ?_, trivial⟩
        rw [Array.getElem?_append_right (by omega)]
        simp only [Array.getElem?_replicate]
        rw [if_pos (by omega)]
       ·cases hx
     have cont : ∀ (u2 : FrameMode), settle u2 = .returning → c'.wpS P (bodyPostS P F c₀ cs fun e u' w' => settle u' = .returning ∧ ∃ v locs', isRet e v ∧ RepH P ext w ⟨ownB locs h, locs, []⟩ locs' h' w' ∧ RT w' (Bar ext locs' h') locs' (TV.one AV.und) v)
       { tmps := ((av ++ Array.replicate (F.ntmps - av.size) undef).setIfInBounds d1 v).setIfInBounds d2 v, defers := [] } ({ c₀ with mode := u2 } :: cs) w := by
      intro u2 hu2
      refine wpS_of_wp (wp_mono (tr_ok (M := M.at own) hm (pin0 H hn) c' _ _ _ _ _ _ _ htr Rb) fun e a w' hq => ?_)
      have fin : ∀ st, resK P F own (fun _ h'' => Wk h'' h') st → Rep P ext w ⟨ownB locs h, locs, []⟩ st a w' → a.defers = [] ∧ ∃ u', ({ c₀ with mode := u2 } :: cs : List Frame) = { c₀ with mode := u' } :: cs ∧ ∃ v, (results F a.tmps).run P w' = .ok v w' ∧
        (settle u' = .returning ∧ ∃ v' locs', isRet (.returned v) v' ∧ RepH P ext w ⟨ownB locs h, locs, []⟩ locs' h' w' ∧ RT w' (Bar ext locs' h') locs' (TV.one AV.und) v') := by
       intro st hk R'
       obtain ⟨v, r', h'', locs', h1, h2, h3, h4⟩ := resK_ok (pin0 H hn) hk R'
       obtain ⟨g1, g2⟩ := h3.weak h2
       exact ⟨R'.defers, u2, rfl, v, h1, hu2, v, locs', rfl, g1, trivial⟩
      cases e with
      | normal => obtain ⟨st, hk, R'⟩ := hq; exact fin st hk R'
      | ret => obtain ⟨st, hk, R'⟩ := hq; exact fin st hk R'
      | exit i => obtain ⟨st, hk, _⟩ := hq; exact hk.elim
      | panic ch => obtain ⟨v, x, st, _, hk', _⟩ := hq; exact (hk x st hk').elim
      | _ => exact hq.elim
     refine wpS_seq (wpS_region ?_)
     show wpOpsS P #[r, s] _ [0, 1] _ _ w
     unfold wpOpsS
     simp only [List.getElem?_toArray, List.getElem?_cons_zero]
     have hwr : ∀ g, Region.wanted r g = true := fun g => by unfold Region.wanted; rw [hr3]
     have hws : ∀ g, Region.wanted s g = true := fun g => by unfold Region.wanted; rw [hs3]
     rw [if_pos (hwr _)]
     have hrunr : ∀ ρ, (execOp ρ r).run P w = .ok .recover w := fun ρ => by
      unfold execOp
      rw [hr2]
      simp [resolve, invoke, builtin]
     rw [hrunr]
     simp only
     have after : ∀ (u2 : FrameMode), settle u2 = .returning → wpOpsS P #[r, s] (Exit.thenS (c'.wpS P (bodyPostS P F c₀ cs fun e u' w' => settle u' = .returning ∧ ∃ v locs', isRet e v ∧ RepH P ext w ⟨ownB locs h, locs, []⟩ locs' h' w' ∧ RT w' (Bar ext locs' h') locs' (TV.one AV.und) v))
       (bodyPostS P F c₀ cs fun e u' w' => settle u' = .returning ∧ ∃ v locs', isRet e v ∧ RepH P ext w ⟨ownB locs h, locs, []⟩ locs' h' w' ∧ RT w' (Bar ext locs' h') locs' (TV.one AV.und) v)) [1]
       (({ tmps := av ++ Array.replicate (F.ntmps - av.size) undef, defers := [] } : Act).put r.dst v) ({ c₀ with mode := u2 } :: cs) w := by
      intro u2 hu2
      unfold wpOpsS
      simp only [List.getElem?_toArray, List.getElem?_cons_succ, List.getElem?_cons_zero]
      rw [if_pos (hws _)]
      have hev : (({ tmps := av ++ Array.replicate (F.ntmps - av.size) undef, defers := [] } : Act).put r.dst v).eval (.tmp d1) = v := by
       rw [hr1]
       have hlt : d1 < (av ++ Array.replicate (F.ntmps - av.size) undef).size := by rw [hsz0]; exact hd.1
       simp only [Act.put, Act.eval, Array.getD_eq_getD_getElem?]
       rw [Array.getElem?_setIfInBounds_self_of_lt hlt]
       rfl
      have hruns : (execOp (({ tmps := av ++ Array.replicate (F.ntmps - av.size) undef, defers := [] } : Act).put r.dst v).eval s).run P w = .ok (.value v) w := by
       unfold execOp
       rw [hs2]
       simp [hev]
      rw [hruns]
      simp only [Oper.upon_value]
      unfold wpOpsS
      show c'.wpS P _ _ _ w
      have := cont u2 hu2
      rw [hr1, hs1]
      exact this
     rw [hrd]
     cases u0 with
     | panicking l => exact after u1 hset
     | run =>
      obtain ⟨rfl, rfl⟩ := hnp (fun l e => by cases e)
      have hc0 : c₀ = { c₀ with mode := .run } := by rw [← hmode]
      simp only
      have := after .run hset
      rw [← hc0] at this
      exact this
     | returning =>
      obtain ⟨rfl, rfl⟩ := hnp (fun l e => by cases e)
      have hc0 : c₀ = { c₀ with mode := .returning } := by rw [← hmode]
      simp only
      have := after .returning hset
      rw [← hc0] at this
      exact this
    unfold callD
    cases u with
    | none =>
     simp only [uArg, List.append_nil] at hsz hrep
     refine body vals (.one (.fz (.ifc false))) .nilIface .returning .returning hsz hrep RF.ifcN rfl ht fun c₀ cs hmode => ⟨?_, fun _ => ⟨rfl, rfl⟩⟩
     simp only [recoverD, hmode]
    | some x =>
     simp only [uArg, List.length_append, List.length_singleton] at hsz
     have hv : vals.back?.getD undef = vals[args.length]?.getD undef := by
      rw [Array.back?_eq_getElem?, hsz]
      rfl
     obtain ⟨v, hv1, hv2⟩ := hrep args.length (.one (.fz x)) (by simp [uArg])
     rw [hv1] at hv
     simp only [Option.getD_some] at hv
     refine body vals.pop (.one (.fz x)) (vals.back?.getD undef) _ (.panicking [{ v := vals.back?.getD undef, recovered := true }]) (by simp [hsz]) (fun i y hy => ?_) (by rw [hv]; exact hv2) rfl ht fun c₀ cs hmode => ⟨?_, fun hne => absurd rfl (hne _)⟩
     ·have hi : i < args.length := (List.getElem?_eq_some_iff.1 hy).1
      obtain ⟨z, hz, hr⟩ := hrep i y (by rw [List.getElem?_append_left hi]; exact hy)
      refine ⟨z, ?_, hr⟩
      rw [Array.getElem?_pop, if_pos (by omega)]
      exact hz
     ·simp only [recoverD, hmode]
   ·exact ht.elim
  ·exact ht.elim
 ·exact ht.elim
theorem FnDf.by_trR {P : Program} {M : Mode} {lv : List Nat → Keep} {f : FuncId} {F : Func} {own : Option Nat} {args : List TV} {h : List Ob} {u : Option FV} {h' : List Ob} {X : Prop} (hm : P.follows .mixedOrders = true) (hf : P.funcs[f]? = some F) (hn : h.length ≤ own.getD 0)
  (hk : ∀ x st, M.kp x st → False) (he : (trFR P M lv F own args h u fun _ h'' => Wk h'' h') = X) (H : X) : FnDf P f args h u h' := FnDf.of_trR hm hf hn hk (Eq.mpr he H)
end
section
def coolA (h : List Ob) (n : Nat) : AV → AV
 | .ofl sz o => match decide (n ≤ o), frzA h (.ofl sz o) with
  | true, some (v, _) => .fz v
  | _, _ => .ofl sz o
 | .nsl sz => .fz (.sl sz [])
 | .kb b => .fz (.bool b)
 | a => a
def coolT (h : List Ob) (n : Nat) : TV → TV
 | .one a => .one (coolA h n a)
 | .agg cs => .agg (cs.map (coolA h n))
 | .tup ts => .tup (ts.map fun p => (p.1, p.2.map (coolA h n)))
 | .und => .und
def lowA (n : Nat) : AV → Bool
 | .ofl _ o => decide (o < n)
 | .ptr o _ _ _ => decide (o < n)
 | .kb _ => false
 | _ => true
def lowT (n : Nat) : TV → Bool
 | .one a => lowA n a
 | .agg cs => cs.all (lowA n)
 | .tup ts => ts.all fun p => p.2.all (lowA n)
 | .und => true
def lowO (n : Nat) : Ob → Bool
 | .g _ cs => cs.all (lowA n)
 | .rs => false
 | .r _ _ _ _ _ none => true
 | .r _ _ _ _ _ (some p) => decide (p.2.2 < n)
 | _ => true
def Cool (n : Nat) (r' : TV) (h' : List Ob) (r : TV) (h : List Ob) : Prop := coolT h' n r' = r ∧ Wk (h'.take n) h ∧ (lowT n r && (h'.take n).all (lowO n) && decide (n ≤ h'.length)) = true
theorem idxO_go_none (o : Nat) : ∀ (ids : List Nat) (k : Nat), idxO.go o ids k = none → o ∉ ids
 | [], k, _ => by simp
 | x :: r, k, h => by
  unfold idxO.go at h
  split at h
  ·cases h
  ·rename_i hne
   have := idxO_go_none o r (k + 1) h
   simp only [List.mem_cons, not_or]
   exact ⟨fun e => hne e.symm, this⟩
theorem idxO_range {n o : Nat} (h : o < n) : idxO (List.range n) o = some o := by
 cases hq : idxO (List.range n) o with
 | none => exact absurd (List.mem_range.2 h) (idxO_go_none o _ 0 hq)
 | some k =>
  have := idxO_some hq
  have hk : k < n := by
   rcases Nat.lt_or_ge k n with h' | h'
   ·exact h'
   ·rw [List.getElem?_eq_none (by simpa using h')] at this; cases this
  rw [List.getElem?_range hk] at this
  cases this; rfl
theorem low_reA {n : Nat} {a : AV} (h : lowA n a = true) : reA (List.range n) a = a := by
 cases a <;> simp only [lowA, decide_eq_true_eq] at h <;> first | rfl | simp only [reA, idxO_range h] | cases h
theorem low_map {n : Nat} {cs : List AV} (h : cs.all (lowA n) = true) : cs.map (reA (List.range n)) = cs := by
 rw [List.all_eq_true] at h
 conv => rhs; rw [← List.map_id cs]
 exact List.map_congr_left fun a ha => low_reA (h a ha)
theorem low_reT {n : Nat} {t : TV} (h : lowT n t = true) : reT (List.range n) t = t := by
 cases t with
 | one a => simp only [lowT] at h; simp only [reT, low_reA h]
 | agg cs => simp only [lowT] at h; simp only [reT, low_map h]
 | tup ts =>
  simp only [lowT, List.all_eq_true] at h
  simp only [reT]
  congr 1
  conv => rhs; rw [← List.map_id ts]
  exact List.map_congr_left fun p hp => by
   obtain ⟨b, cs⟩ := p
   simp only [id_eq]
   rw [low_map (List.all_eq_true.2 (h (b, cs) hp))]
 | und => rfl
theorem low_reO {n : Nat} {ob : Ob} (h : lowO n ob = true) : reO (List.range n) ob = ob := by
 cases ob with
 | g gt cs => simp only [lowO] at h; simp only [reO, low_map h]
 | rs => cases h
 | r s et sz es m fo =>
  cases fo with
  | none => rfl
  | some p =>
   obtain ⟨i, j, o⟩ := p
   have h : o < n := of_decide_eq_true h
   simp only [reO, idxO_range h]
 | _ => rfl
section
variable {P : Program} {ext : Nat → Prop} {w0 : World} {own0 : Own0} {locs : Locs} {h : List Ob} {w : World}
theorem coolA_ok {n : Nat} (H : RepH P ext w0 own0 locs h w) {a : AV} {v : Value} (hr : RA w (Bar ext locs h) locs a v) :
  RA w (Bar ext locs (putOs h (zs h ((List.range h.length).drop n)))) locs (coolA h n a) v := by
 have lt := (zs_ok ((List.range h.length).drop n) H).2.1
 cases a with
 | ofl sz o =>
  simp only [coolA]
  split
  ·rename_i x i hd hf
   have hno : n ≤ o := by simpa using hd
   refine frzA_ok hf (fun k hk => ?_) H hr
   have hko : k = o ∧ o < h.length := by
    unfold frzA at hf
    simp only at hf
    have hlt : ∀ ob, getO h o = ob → ob ≠ .no → o < h.length := fun ob hg hne => (List.getElem?_eq_some_iff.1 (getO_some hg hne)).1
    split at hf
    ·rename_i et sz' es hg
     split at hf
     ·cases hf
      exact ⟨by simpa using hk, hlt _ hg (by simp)⟩
     ·cases hf
    ·rename_i sz' es hg
     split at hf
     ·cases hf
      exact ⟨by simpa using hk, hlt _ hg (by simp)⟩
     ·cases hf
    ·rename_i s et sz' es m hg
     split at hf
     ·cases hf
      exact ⟨by simpa using hk, hlt _ hg (by simp)⟩
     ·cases hf
    ·cases hf
   obtain ⟨rfl, hl⟩ := hko
   rw [List.mem_iff_getElem?]
   exact ⟨k - n, by rw [List.getElem?_drop, show n + (k - n) = k by omega, List.getElem?_range hl]⟩
  ·exact hr.later lt (fun _ _ h => h)
 | nsl sz =>
  obtain ⟨a, rfl⟩ := hr
  exact RF.slN sz a 0
 | kb b => cases hr; exact RF.bool b
 | _ => exact hr.later lt (fun _ _ h => h)
theorem coolC_ok {n : Nat} (H : RepH P ext w0 own0 locs h w) {b : Bool} {cs : List AV} {v : Value} (hr : RC w (Bar ext locs h) locs b cs v) :
  RC w (Bar ext locs (putOs h (zs h ((List.range h.length).drop n)))) locs b (cs.map (coolA h n)) v := by
 obtain ⟨vs, h1, h2, h3, h4⟩ := hr
 refine ⟨vs, h1, by simp [h2], h3, fun j x hx => ?_⟩
 simp only [List.getElem?_map, Option.map_eq_some_iff] at hx
 obtain ⟨y, hy, rfl⟩ := hx
 obtain ⟨u, hu, hra⟩ := h4 j y hy
 exact ⟨u, hu, coolA_ok H hra⟩
theorem coolT_ok {n : Nat} (H : RepH P ext w0 own0 locs h w) {t : TV} {v : Value} (hr : RT w (Bar ext locs h) locs t v) :
  RT w (Bar ext locs (putOs h (zs h ((List.range h.length).drop n)))) locs (coolT h n t) v := by
 cases t with
 | one a => exact coolA_ok H hr
 | agg cs => exact coolC_ok H hr
 | tup ts =>
  obtain ⟨vs, h1, h2, h3⟩ := hr
  refine ⟨vs, h1, by simp [h2], fun i b cs hi => ?_⟩
  simp only [List.getElem?_map, Option.map_eq_some_iff] at hi
  obtain ⟨⟨b', cs'⟩, hq, he⟩ := hi
  cases he
  obtain ⟨u, hu, hra⟩ := h3 i _ _ hq
  exact ⟨u, hu, coolC_ok H hra⟩
 | und => trivial
end
theorem zs_out (n : Nat) (h : List Ob) (o : Nat) (ho : o < n) : (putOs h (zs h ((List.range h.length).drop n)))[o]? = h[o]? := by
 refine zs_get _ _ _ fun hm => ?_
 rw [List.mem_iff_getElem?] at hm
 obtain ⟨k, hk⟩ := hm
 rw [List.getElem?_drop] at hk
 have hlt : n + k < h.length := by
  rcases Nat.lt_or_ge (n + k) h.length with h' | h'
  ·exact h'
  ·rw [List.getElem?_eq_none (by simpa using h')] at hk; cases hk
 rw [List.getElem?_range hlt] at hk
 cases hk
 omega
theorem Fn.of_trC {P : Program} {M : Mode} {lv : List Nat → Keep} {f : FuncId} {F : Func} {own : Option Nat} {args : List TV} {h : List Ob} {r : TV} {h' : List Ob} (hm : P.follows .mixedOrders = true) (hf : P.funcs[f]? = some F) (hn : h.length ≤ own.getD 0)
  (hk : ∀ x st, M.kp x st → False) (ht : trF P M lv F own args h fun r' h'' => Cool h.length r' h'' r h') : Fn P f args h r h' := by
 intro ext w locs vals H hsz hrep
 refine (Fn.of_trG hm hf hn ht ext w locs vals H hsz hrep).mono ?_
 rintro e w' (⟨v, r', h'', locs', ⟨h1, h2, h3⟩, he, H', hr⟩ | ⟨v, x, st, locs', h1, _⟩)
 rotate_left
 ·exact (hk x st h1).elim
 simp only [Bool.and_eq_true, decide_eq_true_eq] at h3
 obtain ⟨⟨l1, l2⟩, l3⟩ := h3
 obtain ⟨H1, lt1, hlen1, _⟩ := zs_ok ((List.range h''.length).drop h.length) H'
 have hr1 := coolT_ok (n := h.length) H' hr
 rw [h1] at hr1
 obtain ⟨H2, lt2⟩ := reH_ok H1 (ids := List.range h.length) List.nodup_range (fun o x hx => by
  have : o < h.length := by
   rcases Nat.lt_or_ge o h.length with h' | h'
   ·exact h'
   ·have := H.len o h'
    rw [show locs o = some x from hx] at this; cases this
  simp [this])
 have hmap : ((List.range h.length).map fun o => reO (List.range h.length) (getO (putOs h'' (zs h'' ((List.range h''.length).drop h.length))) o)) = h''.take h.length := by
  apply List.ext_getElem?
  intro i
  simp only [List.getElem?_map]
  by_cases hi : i < h.length
  ·rw [List.getElem?_range hi, Option.map_some, List.getElem?_take, if_pos hi]
   have hi2 : i < h''.length := by omega
   have hg : getO (putOs h'' (zs h'' ((List.range h''.length).drop h.length))) i = h''[i] := by
    simp only [getO, List.getD_eq_getElem?_getD, zs_out h.length h'' i hi, List.getElem?_eq_getElem hi2, Option.getD_some]
   rw [hg, List.getElem?_eq_getElem hi2, low_reO]
   refine (List.all_eq_true.1 l2) _ ?_
   rw [List.mem_iff_getElem?]
   exact ⟨i, by rw [List.getElem?_take, if_pos hi, List.getElem?_eq_getElem hi2]⟩
  ·rw [List.getElem?_eq_none (by simpa using hi), List.getElem?_take, if_neg hi]
   rfl
 rw [hmap] at H2 lt2
 obtain ⟨H3, hb⟩ := H2.weak h2
 refine ⟨v, _, he, H3, ?_⟩
 have h5 := reT_ok (ids := List.range h.length) (hr1.later lt2 (fun _ _ h => h))
 rw [low_reT l1] at h5
 rw [show Bar ext (reLocs locs' (List.range h.length)) h' = Bar ext (reLocs locs' (List.range h.length)) (h''.take h.length) from funext fun b => propext (hb b)]
 exact h5
theorem Fn.by_trC {P : Program} {M : Mode} {lv : List Nat → Keep} {f : FuncId} {F : Func} {own : Option Nat} {args : List TV} {h : List Ob} {r : TV} {h' : List Ob} {X : Prop} (hm : P.follows .mixedOrders = true) (hf : P.funcs[f]? = some F) (hn : h.length ≤ own.getD 0)
  (hk : ∀ x st, M.kp x st → False) (he : (trF P M lv F own args h fun r' h'' => Cool h.length r' h'' r h') = X) (H : X) : Fn P f args h r h' := Fn.of_trC hm hf hn hk (Eq.mpr he H)
end
set_option maxRecDepth 100000
section
def num_of_lv : List Nat → Keep := lvOf []
def num_of_H (R : TV → List Ob → Prop) (neg : Bool) (l : List (List FV)) : Prop :=
 (∃ es1 : LL, ((Fn Tryz.prog 197 [(TV.one (AV.fz (FV.sl 1 l)))] [] (TV.one (AV.fz (FV.sl 1 es1))) []) ∧ ((((decide ((64 : Int) < (((List.length es1) : Nat) : Int))) = true) → (R (TV.tup [(true, [(AV.fz (FV.bool false)), (AV.fz (FV.sl 1 ([] : LL)))]), (false, [(AV.fz (FV.int .i64 6))])]) [])) ∧ (((decide ((64 : Int) < (((List.length es1) : Nat) : Int))) = false) → (((neg = true) → (R (TV.tup [(true, [(AV.fz (FV.bool (decide ((0 : Int) < (((List.length es1) : Nat) : Int))))), (AV.fz (FV.sl 1 es1))]), (false, [(AV.fz (FV.int .i64 0))])]) [])) ∧ ((neg = false) → (R (TV.tup [(true, [(AV.fz (FV.bool false)), (AV.fz (FV.sl 1 es1))]), (false, [(AV.fz (FV.int .i64 0))])]) [])))))))
theorem num_of_fn (neg : Bool) (l : LL) {r : TV} {h : List Ob} (H : num_of_H (fun r' h' => r' = r ∧ h' = h) neg l) : Fn Tryz.prog 164 [(TV.one (AV.fz (FV.bool neg))), (TV.one (AV.fz (FV.sl 1 l)))] [] r h :=
 Fn.by_tr (M := (modeOf [] [])) (lv := num_of_lv) (own := none) (F := Tryz.f164) (by kernel_rfl) (by kernel_rfl) (by first | decide | simp) (fun _ _ h => h) (by kernel_rfl) H
def num_cut_lv : List Nat → Keep := lvOf [([0, 0, 1], ⟨1, 0, [], false, false⟩)]
def num_cut_S0 (l1 : LL) : St := (St.mk [(TV.one (AV.fz (FV.sl 1 l1))), TV.und, TV.und, TV.und, TV.und, TV.und, TV.und, TV.und, TV.und, TV.und, TV.und, TV.und, TV.und, TV.und, TV.und, TV.und, TV.und, TV.und, TV.und, TV.und, TV.und] [])
def num_cut_L0 (R : TV → List Ob → Prop) (l1 : LL) : Prop := LoopAt Tryz.prog (modeOf [] []) num_cut_lv Tryz.f197 none R [1, 0, 0] (num_cut_S0 l1)
def num_cut_R0 (R : TV → List Ob → Prop) (l1 : List (List FV)) : Prop :=
 ((((decide ((0 : Int) < (((List.length l1) : Nat) : Int))) = true) → (((0 : Int) ≤ (IntKind.wrap .i64 ((((List.length l1) : Nat) : Int) - 1))) ∧ (∃ n2 : Int, (((l1)[(Int.toNat (IntKind.wrap .i64 ((((List.length l1) : Nat) : Int) - 1)))]? = (some [(FV.int .u32 n2)])) ∧ ((((n2 == 0) = true) → ((((0 : Int) ≤ (IntKind.wrap .i64 ((((List.length l1) : Nat) : Int) - 1))) ∧ ((IntKind.wrap .i64 ((((List.length l1) : Nat) : Int) - 1)) ≤ (((List.length l1) : Nat) : Int))) ∧ (num_cut_L0 R (List.take (Int.toNat (IntKind.wrap .i64 ((((List.length l1) : Nat) : Int) - 1))) l1)))) ∧ (((n2 == 0) = false) → (R (TV.one (AV.fz (FV.sl 1 l1))) []))))))) ∧ (((decide ((0 : Int) < (((List.length l1) : Nat) : Int))) = false) → (R (TV.one (AV.fz (FV.sl 1 l1))) [])))
theorem num_cut_l0 {R : TV → List Ob → Prop} {l1 : List (List FV)} (h : num_cut_R0 R l1) : num_cut_L0 R l1 :=
 LoopAt.by_tr (by kernel_rfl) (by kernel_rfl) h
def num_cut_H (R : TV → List Ob → Prop) (l : List (List FV)) : Prop :=
 (num_cut_L0 R l)
theorem num_cut_fn (l : LL) {r : TV} {h : List Ob} (H : num_cut_H (fun r' h' => r' = r ∧ h' = h) l) : Fn Tryz.prog 197 [(TV.one (AV.fz (FV.sl 1 l)))] [] r h :=
 Fn.by_tr (M := (modeOf [] [])) (lv := num_cut_lv) (own := none) (F := Tryz.f197) (by kernel_rfl) (by kernel_rfl) (by first | decide | simp) (fun _ _ h => h) (by kernel_rfl) H
end
section
theorem cut_loop (R : TV → List Ob → Prop) : ∀ (n : Nat) (l : List Int), l.length = n → n ≤ 1000000 → Lim 1000000000 l → R (fzS .u32 (digs 1000000000 (val 1000000000 l).toNat)) [] → num_cut_L0 R (ints .u32 l)
 | 0, l, hn, _, hL, hR => by
  obtain rfl := List.length_eq_zero_iff.1 hn
  refine num_cut_l0 ?_
  unfold num_cut_R0
  simp only [ints_len, ints_app, ints_snoc, ints_take, ints_drop, ints_set, ints_rep, ints_one, ex_rd, dec_t, dec_f, beq_t, beq_f, bne_t, bne_f, not_t, not_f, List.length_set, List.length_append, List.length_cons, List.length_nil, List.length_take, List.length_drop, List.length_replicate, Int.toNat_natCast, List.nil_append, Bool.not_true, Bool.not_false, Wk_nil, Wk_cons, wk1_same, wk1_f, and_true, true_and, Bool.false_eq_true, Bool.true_eq_false, false_implies, forall_const]
  refine ⟨fun h => by omega, fun _ => ?_⟩
  have e : (val 1000000000 []).toNat = 0 := rfl
  rw [e, digs_zero] at hR
  exact hR
 | n + 1, l, hn, hb, hL, hR => by
  refine num_cut_l0 ?_
  unfold num_cut_R0
  have e : IntKind.wrap .i64 ((l.length : Int) - 1) = (n : Nat) := by rw [w64 (by omega) (by omega)]; omega
  simp only [ints_len, ints_app, ints_snoc, ints_take, ints_drop, ints_set, ints_rep, ints_one, ex_rd, dec_t, dec_f, beq_t, beq_f, bne_t, bne_f, not_t, not_f, List.length_set, List.length_append, List.length_cons, List.length_nil, List.length_take, List.length_drop, List.length_replicate, Int.toNat_natCast, List.nil_append, Bool.not_true, Bool.not_false, Wk_nil, Wk_cons, wk1_same, wk1_f, and_true, true_and, Bool.false_eq_true, Bool.true_eq_false, false_implies, forall_const, e]
  refine ⟨fun _ => ⟨by omega, by omega, fun h0 => ⟨by omega, ?_⟩, fun h0 => ?_⟩, fun h => by omega⟩
  ·refine cut_loop R n _ (by simp; omega) (by omega) (hL.take n) ?_
   have := val_take_succ 1000000000 l n
   rw [List.take_of_length_le (by omega), h0, Int.mul_zero, Int.add_zero] at this
   rwa [← this]
  ·have hnm : Norm l := norm_of_rd fun _ => by rw [hn]; exact h0
   rwa [digsB_eq hL hnm] at hR
theorem cut_ok (l : List Int) (hl : l.length ≤ 1000000) (hL : Lim 1000000000 l) : Fn Tryz.prog 197 [fzS .u32 l] [] (fzS .u32 (digs 1000000000 (val 1000000000 l).toNat)) [] :=
 num_cut_fn _ (cut_loop _ _ l rfl hl hL ⟨rfl, rfl⟩)
end
section
abbrev tupNE (s : Bool) (l : List Int) (e : Int) : TV := .tup [(true, [.fz (.bool s), .fz (.sl 1 (ints .u32 l))]), (false, [.fz (.int .i64 e)])]
def outS (z : Int) : Bool := if 64 < (bigL z).length then false else bigN z
def outL (z : Int) : List Int := if 64 < (bigL z).length then [] else bigL z
def outE (z : Int) : Int := if 64 < (bigL z).length then 6 else 0
abbrev outT (z : Int) : TV := tupNE (outS z) (outL z) (outE z)
theorem sgn_val (s : Bool) (l : List Int) (hL : Lim 1000000000 l) : digs 1000000000 (val 1000000000 l).toNat = bigL (sv s l) := by
 have := val_nonneg (B := 1000000000) (by omega) hL
 unfold bigL sv
 congr 1
 split <;> omega
theorem of_ok (s : Bool) (l : List Int) (hl : l.length ≤ 1000000) (hL : Lim 1000000000 l) : Fn Tryz.prog 164 [fzB s, fzS .u32 l] [] (outT (sv s l)) [] := by
 have h0 := val_nonneg (B := 1000000000) (by omega) hL
 refine num_of_fn _ _ ?_
 unfold num_of_H
 refine ⟨_, cut_ok l hl hL, ?_⟩
 have hz := bigL_nil (sv s l)
 rw [sgn_val s l hL]
 unfold outT outS outL outE
 simp only [ints_len, ints_app, ints_snoc, ints_take, ints_drop, ints_set, ints_rep, ints_one, ex_rd, dec_t, dec_f, beq_t, beq_f, bne_t, bne_f, not_t, not_f, List.length_set, List.length_append, List.length_cons, List.length_nil, List.length_take, List.length_drop, List.length_replicate, Int.toNat_natCast, List.nil_append, Bool.not_true, Bool.not_false, Wk_nil, Wk_cons, wk1_same, wk1_f, and_true, true_and, Bool.false_eq_true, Bool.true_eq_false, false_implies, forall_const]
 refine ⟨fun h => ?_, fun h => ?_⟩
 ·rw [if_pos (by omega), if_pos (by omega), if_pos (by omega)]; rfl
 ·rw [if_neg (by omega), if_neg (by omega), if_neg (by omega)]
  refine ⟨fun hs => ?_, fun hs => ?_⟩
  ·have : decide ((0 : Int) < ((bigL (sv s l)).length : Nat)) = bigN (sv s l) := by
    unfold bigN
    rw [decide_eq_decide]
    have h1 : (bigL (sv s l)).length = 0 ↔ sv s l = 0 := by rw [List.length_eq_zero_iff, hz]
    have h2 : sv s l ≤ 0 := by unfold sv; rw [if_pos hs]; omega
    omega
   rw [this]
  ·have : bigN (sv s l) = false := by
    unfold bigN sv
    rw [if_neg (by simp [hs])]
    simpa using h0
   rw [this]
end
set_option maxRecDepth 100000
section
def ref01_Same_lv : List Nat → Keep := lvOf [([0, 1, 0, 1, 1], ⟨44, 0, [], false, false⟩)]
def ref01_Same_S0 (a0 : Bool) (a1 : LL) (b0 : Bool) (b1 : LL) (i : Int) : St := (St.mk [TV.und, TV.und, (TV.one (AV.ptr 0 0 0 0)), (TV.one (AV.ptr 1 0 0 0)), TV.und, (TV.one (AV.fz (FV.int .i64 i))), TV.und, TV.und, TV.und, TV.und, TV.und, TV.und, TV.und, TV.und, TV.und, TV.und, TV.und, TV.und, TV.und, TV.und, TV.und, TV.und, TV.und, TV.und, TV.und, TV.und, TV.und, TV.und, TV.und, TV.und, TV.und, TV.und, TV.und, TV.und, TV.und, TV.und, TV.und, TV.und] [(Ob.g 31 [(AV.fz (FV.bool a0)), (AV.fz (FV.sl 1 a1))]), (Ob.g 31 [(AV.fz (FV.bool b0)), (AV.fz (FV.sl 1 b1))])])
def ref01_Same_L0 (R : TV → List Ob → Prop) (a0 : Bool) (a1 : LL) (b0 : Bool) (b1 : LL) (i : Int) : Prop := LoopAt Tryz.prog (modeOf [] []) ref01_Same_lv Tryz.f48 none R [1, 1, 0, 1, 0] (ref01_Same_S0 a0 a1 b0 b1 i)
def ref01_Same_R0 (R : TV → List Ob → Prop) (a0 : Bool) (a1 : List (List FV)) (b0 : Bool) (b1 : List (List FV)) (i : Int) : Prop :=
 ((((decide (i < (((List.length a1) : Nat) : Int))) = true) → (((0 : Int) ≤ i) ∧ (∃ n4 : Int, (((a1)[(Int.toNat i)]? = (some [(FV.int .u32 n4)])) ∧ (((0 : Int) ≤ i) ∧ (∃ n5 : Int, (((b1)[(Int.toNat i)]? = (some [(FV.int .u32 n5)])) ∧ ((((n4 != n5) = true) → (R (TV.one (AV.fz (FV.bool false))) [])) ∧ (((n4 != n5) = false) → (ref01_Same_L0 R a0 a1 b0 b1 (IntKind.wrap .i64 (i + 1)))))))))))) ∧ (((decide (i < (((List.length a1) : Nat) : Int))) = false) → (R (TV.one (AV.fz (FV.bool true))) [])))
theorem ref01_Same_l0 {R : TV → List Ob → Prop} {a0 : Bool} {a1 : LL} {b0 : Bool} {b1 : LL} {i : Int} (h : ref01_Same_R0 R a0 a1 b0 b1 i) : ref01_Same_L0 R a0 a1 b0 b1 i :=
 LoopAt.by_tr (by kernel_rfl) (by kernel_rfl) h
def ref01_Same_H (R : TV → List Ob → Prop) (a0 : Bool) (a1 : List (List FV)) (b0 : Bool) (b1 : List (List FV)) : Prop :=
 ((((Bool.not (a0 == b0)) = true) → (R (TV.one (AV.fz (FV.bool false))) [])) ∧ (((Bool.not (a0 == b0)) = false) → (((((((List.length a1) : Nat) : Int) != (((List.length b1) : Nat) : Int)) = true) → (R (TV.one (AV.fz (FV.bool false))) [])) ∧ ((((((List.length a1) : Nat) : Int) != (((List.length b1) : Nat) : Int)) = false) → (ref01_Same_L0 R a0 a1 b0 b1 0)))))
theorem ref01_Same_fn (a0 : Bool) (a1 : LL) (b0 : Bool) (b1 : LL) {r : TV} {h : List Ob} (H : ref01_Same_H (fun r' h' => r' = r ∧ h' = h) a0 a1 b0 b1) : Fn Tryz.prog 48 [(TV.agg [(AV.fz (FV.bool a0)), (AV.fz (FV.sl 1 a1))]), (TV.agg [(AV.fz (FV.bool b0)), (AV.fz (FV.sl 1 b1))])] [] r h :=
 Fn.by_tr (M := (modeOf [] [])) (lv := ref01_Same_lv) (own := none) (F := Tryz.f48) (by kernel_rfl) (by kernel_rfl) (by first | decide | simp) (fun _ _ h => h) (by kernel_rfl) H
end
section
def mkS (s : Bool) (v : Int) : Bool := if 576 < (digs 10 v.toNat).length then false else s && decide (0 < v)
def mkL (v : Int) : List Int := if 576 < (digs 10 v.toNat).length then [] else digs 1000000000 v.toNat
def mkB (v : Int) : Bool := if 576 < (digs 10 v.toNat).length then false else true
end
section
theorem same_loop (s t : Bool) (a b : List Int) (ha : a.length ≤ 100000000000000) (hlen : a.length = b.length) (R : TV → List Ob → Prop) (hR : R (fzB (decide (a = b))) []) : ∀ (d i : Nat), i + d = a.length → a.take i = b.take i → ref01_Same_L0 R s (ints .u32 a) t (ints .u32 b) i
 | 0, i, hi, h => by
  rw [List.take_of_length_le (by omega), List.take_of_length_le (by omega)] at h
  refine ref01_Same_l0 ?_
  unfold ref01_Same_R0
  simp only [ints_len, ints_app, ints_snoc, ints_take, ints_drop, ints_set, ints_rep, ints_one, ex_rd, dec_t, dec_f, beq_t, beq_f, bne_t, bne_f, not_t, not_f, List.length_set, List.length_append, List.length_cons, List.length_nil, List.length_take, List.length_drop, List.length_replicate, Int.toNat_natCast, List.nil_append, Bool.not_true, Bool.not_false, Wk_nil, Wk_cons, wk1_same, wk1_f, and_true, true_and, Bool.false_eq_true, Bool.true_eq_false, false_implies, forall_const]
  exact ⟨fun h => by omega, fun _ => by simpa [h] using hR⟩
 | d + 1, i, hi, h => by
  refine ref01_Same_l0 ?_
  unfold ref01_Same_R0
  have e3 : IntKind.wrap .i64 ((i : Int) + 1) = ((i + 1 : Nat) : Int) := w64 (by omega) (by omega)
  simp only [ints_len, ints_app, ints_snoc, ints_take, ints_drop, ints_set, ints_rep, ints_one, ex_rd, dec_t, dec_f, beq_t, beq_f, bne_t, bne_f, not_t, not_f, List.length_set, List.length_append, List.length_cons, List.length_nil, List.length_take, List.length_drop, List.length_replicate, Int.toNat_natCast, List.nil_append, Bool.not_true, Bool.not_false, Wk_nil, Wk_cons, wk1_same, wk1_f, and_true, true_and, Bool.false_eq_true, Bool.true_eq_false, false_implies, forall_const, e3]
  refine ⟨fun _ => ⟨by omega, by omega, by omega, by omega, fun hne => ?_, fun he => ?_⟩, fun h => by omega⟩
  ·have : ¬ a = b := fun e => hne (by rw [e])
   simpa [this] using hR
  ·refine same_loop s t a b ha hlen R hR d (i + 1) (by omega) ?_
   rw [rd_at a i (by omega), rd_at b i (by omega)] at he
   rw [List.take_succ_eq_append_getElem (by omega), List.take_succ_eq_append_getElem (by omega), h, he]
theorem same_ok (s t : Bool) (a b : List Int) (ha : a.length ≤ 100000000000000) : Fn Tryz.prog 48 [fzN s a, fzN t b] [] (fzB (decide (s = t ∧ a = b))) [] := by
 refine ref01_Same_fn _ _ _ _ ?_
 unfold ref01_Same_H
 simp only [ints_len, ints_app, ints_snoc, ints_take, ints_drop, ints_set, ints_rep, ints_one, ex_rd, dec_t, dec_f, beq_t, beq_f, bne_t, bne_f, not_t, not_f, List.length_set, List.length_append, List.length_cons, List.length_nil, List.length_take, List.length_drop, List.length_replicate, Int.toNat_natCast, List.nil_append, Bool.not_true, Bool.not_false, Wk_nil, Wk_cons, wk1_same, wk1_f, and_true, true_and, Bool.false_eq_true, Bool.true_eq_false, false_implies, forall_const, beq_eq_false_iff_ne, beq_iff_eq]
 refine ⟨fun h => ?_, fun h => ⟨fun h2 => ?_, fun h2 => ?_⟩⟩
 ·simp [h]
 ·have : ¬ a = b := fun e => h2 (by rw [e])
  simp [this]
 ·exact same_loop s t a b ha (by omega) _ ⟨by simp [h], rfl⟩ a.length 0 (by omega) (by simp)
set_option exponentiation.threshold 1000 in
theorem mk_out (s : Bool) (v : Int) (hv : 0 ≤ v) : (mkB v = true → outE (if s = true then -v else v) = 0 ∧ outS (if s = true then -v else v) = mkS s v ∧ outL (if s = true then -v else v) = mkL v) ∧
  (mkB v = false → outE (if s = true then -v else v) = 6 ∧ outS (if s = true then -v else v) = false ∧ outL (if s = true then -v else v) = []) := by
 have e : ((if s = true then -v else v)).natAbs = v.toNat := by split <;> omega
 have h1 := digs_len (B := 10) (by omega) v.toNat 576
 have h2 := bigL_len (if s = true then -v else v) 64
 rw [e] at h2
 have h3 : (10 : Nat) ^ 576 = 1000000000 ^ 64 := pow9N 64
 rw [h3] at h1
 unfold mkB mkS mkL outE outS outL
 by_cases hc : 576 < (digs 10 v.toNat).length
 ·have : 64 < (bigL (if s = true then -v else v)).length := by omega
  rw [if_pos hc, if_pos hc, if_pos hc, if_pos this, if_pos this, if_pos this]
  exact ⟨(fun h => by cases h), fun _ => ⟨rfl, rfl, rfl⟩⟩
 ·have : ¬ 64 < (bigL (if s = true then -v else v)).length := by omega
  rw [if_neg hc, if_neg hc, if_neg hc, if_neg this, if_neg this, if_neg this]
  refine ⟨fun _ => ⟨rfl, ?_, ?_⟩, (fun h => by cases h)⟩
  ·unfold bigN
   cases s <;> simp <;> omega
  ·unfold bigL; rw [e]
end
section
open Go Go.Proofs
def bs (s : ByteArray) : List Int := s.data.toList.map fun c => (c.toNat : Int)
def Bytes (l : List Int) : Prop := Lim 256 l
theorem Bytes.nil : Bytes [] := Lim.nil _
theorem bs_bytes (s : ByteArray) : Bytes (bs s) := by
 intro x hx
 simp only [bs, List.mem_map] at hx
 obtain ⟨c, _, rfl⟩ := hx
 have := c.toNat_lt
 omega
theorem u8_back {n : Int} (h0 : 0 ≤ n) (h1 : n < 256) : ((UInt8.ofNat n.toNat).toNat : Int) = n := by
 rw [UInt8.toNat_ofNat']; omega
theorem bs_of {l : List Int} (h : Bytes l) : bs (bytesOf l) = l := by
 simp only [bs, bytesOf, List.map_map]
 conv => rhs; rw [← List.map_id l]
 refine List.map_congr_left fun x hx => ?_
 have := h x hx
 simpa using u8_back this.1 this.2
theorem of_bs (s : ByteArray) : bytesOf (bs s) = s := by
 have : (bs s).map (fun n => UInt8.ofNat n.toNat) = s.data.toList := by
  simp only [bs, List.map_map]
  conv => rhs; rw [← List.map_id s.data.toList]
  refine List.map_congr_left fun c _ => ?_
  simp
 unfold bytesOf
 rw [this]
theorem bs_inj {s t : ByteArray} (h : bs s = bs t) : s = t := by rw [← of_bs s, h, of_bs]
theorem bytesOf_inj {l m : List Int} (hl : Bytes l) (hm : Bytes m) (h : bytesOf l = bytesOf m) : l = m := by rw [← bs_of hl, h, bs_of hm]
theorem size_of (l : List Int) : (bytesOf l).size = l.length := by
 show (bytesOf l).data.size = _
 simp [bytesOf]
theorem eq_bytes {l m : List Int} (hl : Bytes l) (hm : Bytes m) : ((bytesOf l).toList == (bytesOf m).toList) = decide (l = m) := by
 rw [Bool.eq_iff_iff, beq_iff_eq, decide_eq_true_eq]
 constructor
 ·intro h
  rw [ByteArray.toList_eq, ByteArray.toList_eq] at h
  exact bytesOf_inj hl hm (by
   have := Array.toList_inj.1 h
   cases hx : bytesOf l; cases hy : bytesOf m
   rw [hx, hy] at this
   simpa using this)
 ·rintro rfl; rfl
theorem ex_byte {l : List Int} (hl : Bytes l) {i : Nat} {Q : Int → Prop} : (∃ c : UInt8, (ByteArray.data (bytesOf l))[i]? = some c ∧ Q ((c.toNat : Nat) : Int)) ↔ (i < l.length ∧ Q (rd l i)) := by
 have key : (ByteArray.data (bytesOf l))[i]? = (l[i]?).map fun n => UInt8.ofNat n.toNat := by simp [bytesOf]
 constructor
 ·rintro ⟨c, h, hq⟩
  rw [key, Option.map_eq_some_iff] at h
  obtain ⟨n, hn, rfl⟩ := h
  have := hl n (List.mem_of_getElem? hn)
  rw [u8_back this.1 this.2] at hq
  exact ⟨(List.getElem?_eq_some_iff.1 hn).1, by rw [rd_some hn]; exact hq⟩
 ·rintro ⟨h, hq⟩
  have := hl.rd (by omega) i
  exact ⟨UInt8.ofNat (rd l i).toNat, by rw [key, some_rd h]; rfl, by rw [u8_back this.1 this.2]; exact hq⟩
theorem map_bs (s : ByteArray) : List.map (fun c : UInt8 => [FV.int .u8 ((c.toNat : Nat) : Int)]) (Array.toList (ByteArray.data s)) = ints .u8 (bs s) := by
 simp [ints, bs]
end
section
abbrev p0 : TV := .one (.ptr 0 0 0 0)
end
section
open Go Go.RowKit
theorem RepH.below {P : Program} {ext : Nat → Prop} {w0 : World} {own0 : Own0} {locs : Locs} {w w' : World} (H : RepH P ext w0 own0 locs [] w) (hb : Below w.heap.size w w') : RepH P ext w0 own0 locs [] w' := by
 have hown : ∀ b, ¬ ownB locs [] b := by rintro b ⟨o, l, d, ob, h1, _⟩; simp at h1
 refine ⟨H.len, fun o ob ho => by simp at ho, fun o o' l l' ob ob' d d' _ ho => by simp at ho, fun b _ hb => hown b hb, fun b hb' => Nat.lt_of_lt_of_le (H.extlt b hb') hb.size, fun b _ hb => absurd hb (hown b), ?_, H.base, H.pins, fun o b h => Nat.lt_of_lt_of_le (H.ownlt o b h) hb.size⟩
 exact ⟨Nat.le_trans H.since.size hb.size, fun b hlt hn => (hb.block b (Nat.lt_of_lt_of_le hlt H.since.size)).trans (H.since.block b hlt hn), hb.os.trans H.since.os, hb.tape.trans H.since.tape, hb.output.trans H.since.output⟩
def bareV : FV → Option Value
 | .int k n => some (.int k n)
 | .bool b => some (.bool b)
 | .str s => some (.string s)
 | _ => none
theorem bareV_ok {w : World} {B : Nat → Prop} {x : FV} {v u : Value} (h : bareV x = some v) (hr : RF w B x u) : u = v := by
 cases x <;> cases h <;> cases hr <;> rfl
theorem bareV_rep {w : World} {B : Nat → Prop} {x : FV} {v : Value} (h : bareV x = some v) : RF w B x v := by
 cases x <;> cases h <;> constructor
theorem args_bare {w : World} {B : Nat → Prop} {locs : Nat → Option Loc} : ∀ (xs : List FV) (vs vals : List Value), xs.mapM bareV = some vs → vals.length = xs.length →
  (∀ (i : Nat) (x : TV), (xs.map fun x => TV.one (.fz x))[i]? = some x → ∃ v, vals[i]? = some v ∧ RT w B locs x v) → vals = vs
 | [], vs, vals, h, hl, _ => by
  simp at h hl
  rw [hl, ← h]
 | x :: xs, vs, [], h, hl, _ => by simp at hl
 | x :: xs, vs, v :: vals, h, hl, hr => by
  simp only [List.mapM_cons, Option.bind_eq_bind, Option.bind_eq_some_iff, Option.pure_def, Option.some.injEq] at h
  obtain ⟨u, hu, us, hus, rfl⟩ := h
  obtain ⟨v', hv', hr'⟩ := hr 0 _ rfl
  cases hv'
  have h1 := bareV_ok hu hr'
  have h2 := args_bare xs us vals hus (by simpa using hl) (fun i y hy => hr (i + 1) y (by simpa using hy))
  rw [h1, h2]
theorem Fn.of_below {P : Program} {f : FuncId} (xs : List FV) {vs : List Value} {r : FV} {v : Value} (hx : xs.mapM bareV = some vs) (hr : bareV r = some v)
  (hc : ∀ w, Glob w → Calls P f vs.toArray w fun e w' => e = .returned v ∧ Below w.heap.size w w') : Fn P f (xs.map fun x => .one (.fz x)) [] (.one (.fz r)) [] := by
 intro ext w locs vals H hsz hrep
 have e : vals = vs.toArray := by
  have := args_bare xs vs vals.toList hx (by simpa using hsz) (fun i x h => by obtain ⟨v, h1, h2⟩ := hrep i x h; exact ⟨v, by simpa using h1, h2⟩)
  rw [← this]
 subst e
 refine (hc w H.glob).mono ?_
 rintro e w' ⟨rfl, hb⟩
 exact ⟨v, locs, rfl, H.below hb, bareV_rep hr⟩
end
end Go.Proofs.YtenkkekooimpjaaGreatDoor.Ev
end
section
namespace Go.Proofs
open Go.Shelf
def Tryz.lays161_ren : Go.Shelf.Ren := ⟨fun | 161 => 162 | 231 => 188 | 227 => 190 | 233 => 191 | 235 => 193 | 228 => 213 | 197 => 87 | 151 => 214 | 260 => 115 | 152 => 226 | 137 => 131 | 119 => 100 | 224 => 230 | 225 => 231 | 217 => 156 | 266 => 182 | n => n, fun | 9 => 9 | 4 => 4 | 3 => 3 | 5 => 5 | 117 => 229 | 116 => 228 | 0 => 0 | 124 => 232 | 105 => 102 | 21 => 21 | 119 => 175 | 46 => 172 | 139 => 178 | 138 => 177 | n => n, fun | 3 => 2 | 4 => 3 | n => n⟩
theorem Tryz.lays161 : Go.Proofs.Lays.n161 Tryz.prog Tryz.lays161_ren := {
 mixed := by kernel_rfl
 f119 := Tryz.func100.trans (congrArg some (by kernel_rfl))
 f137 := Tryz.func131.trans (congrArg some (by kernel_rfl))
 f151 := Tryz.func214.trans (congrArg some (by kernel_rfl))
 f152 := Tryz.func226.trans (congrArg some (by kernel_rfl))
 f161 := Tryz.func162.trans (congrArg some (by kernel_rfl))
 f197 := Tryz.func87.trans (congrArg some (by kernel_rfl))
 f217 := Tryz.func156.trans (congrArg some (by kernel_rfl))
 f224 := Tryz.func230.trans (congrArg some (by kernel_rfl))
 f225 := Tryz.func231.trans (congrArg some (by kernel_rfl))
 f227 := Tryz.func190.trans (congrArg some (by kernel_rfl))
 f228 := Tryz.func213.trans (congrArg some (by kernel_rfl))
 f231 := Tryz.func188.trans (congrArg some (by kernel_rfl))
 f233 := Tryz.func191.trans (congrArg some (by kernel_rfl))
 f235 := Tryz.func193.trans (congrArg some (by kernel_rfl))
 f260 := Tryz.func115.trans (congrArg some (by kernel_rfl))
 f266 := Tryz.func182.trans (congrArg some (by kernel_rfl))
 t0 := Tryz.underlying0
 a0 := Tryz.isAgg0
 z0 := Tryz.sizeOf0
 v0 := Tryz.zeroValue0
 t3 := Tryz.underlying3
 a3 := Tryz.isAgg3
 z3 := Tryz.sizeOf3
 v3 := Tryz.zeroValue3
 t4 := Tryz.underlying4
 a4 := Tryz.isAgg4
 z4 := Tryz.sizeOf4
 v4 := Tryz.zeroValue4
 t5 := Tryz.underlying5
 a5 := Tryz.isAgg5
 z5 := Tryz.sizeOf5
 v5 := Tryz.zeroValue5
 t9 := Tryz.underlying9
 a9 := Tryz.isAgg9
 z9 := Tryz.sizeOf9
 v9 := Tryz.zeroValue9
 t21 := Tryz.underlying21
 a21 := Tryz.isAgg21
 z21 := Tryz.sizeOf21
 v21 := Tryz.zeroValue21
 t46 := Tryz.underlying172
 a46 := Tryz.isAgg172
 z46 := Tryz.sizeOf172
 v46 := Tryz.zeroValue172
 t105 := Tryz.underlying102
 a105 := Tryz.isAgg102
 z105 := Tryz.sizeOf102
 v105 := Tryz.zeroValue102
 t116 := Tryz.underlying228
 a116 := Tryz.isAgg228
 z116 := Tryz.sizeOf228
 t117 := Tryz.underlying229
 a117 := Tryz.isAgg229
 z117 := Tryz.sizeOf229
 v117 := Tryz.zeroValue229
 t119 := Tryz.underlying175
 a119 := Tryz.isAgg175
 z119 := Tryz.sizeOf175
 t124 := Tryz.underlying232
 a124 := Tryz.isAgg232
 z124 := Tryz.sizeOf232
 v124 := Tryz.zeroValue232
 t138 := Tryz.underlying177
 a138 := Tryz.isAgg177
 z138 := Tryz.sizeOf177
 v138 := Tryz.zeroValue177
 t139 := Tryz.underlying178
 a139 := Tryz.isAgg178
 z139 := Tryz.sizeOf178
 v139 := Tryz.zeroValue178
 g3 := by kernel_rfl
 g4 := by kernel_rfl }
open Go.RowKit in
theorem Tryz.strings_TrimLeft_one (s : ByteArray) (c : UInt8) (hc : c.toNat < 128) (w : World) :
  Calls Tryz.prog 162 #[.string s, .string ⟨#[c]⟩] w fun e w' => e = .returned (.string ⟨(Lib.trimLeftB s.data.toList c).toArray⟩) ∧ w' = w := Any.strings_TrimLeft_one Tryz.lays161 s c hc w
def Tryz.lays160_ren : Go.Shelf.Ren := ⟨fun | 160 => 161 | 232 => 189 | 231 => 188 | 227 => 190 | 234 => 192 | 233 => 191 | 236 => 194 | 235 => 193 | 228 => 213 | 271 => 215 | 151 => 214 | 197 => 87 | 120 => 227 | 152 => 226 | 260 => 115 | 137 => 131 | 119 => 100 | 224 => 230 | 225 => 231 | 217 => 156 | 266 => 182 | n => n, fun | 9 => 9 | 4 => 4 | 3 => 3 | 5 => 5 | 117 => 229 | 116 => 228 | 0 => 0 | 124 => 232 | 21 => 21 | 105 => 102 | 46 => 172 | 119 => 175 | 139 => 178 | 138 => 177 | n => n, fun | 3 => 2 | 4 => 3 | n => n⟩
theorem Tryz.lays160 : Go.Proofs.Lays.n160 Tryz.prog Tryz.lays160_ren := {
 mixed := by kernel_rfl
 f119 := Tryz.func100.trans (congrArg some (by kernel_rfl))
 f120 := Tryz.func227.trans (congrArg some (by kernel_rfl))
 f137 := Tryz.func131.trans (congrArg some (by kernel_rfl))
 f151 := Tryz.func214.trans (congrArg some (by kernel_rfl))
 f152 := Tryz.func226.trans (congrArg some (by kernel_rfl))
 f160 := Tryz.func161.trans (congrArg some (by kernel_rfl))
 f197 := Tryz.func87.trans (congrArg some (by kernel_rfl))
 f217 := Tryz.func156.trans (congrArg some (by kernel_rfl))
 f224 := Tryz.func230.trans (congrArg some (by kernel_rfl))
 f225 := Tryz.func231.trans (congrArg some (by kernel_rfl))
 f227 := Tryz.func190.trans (congrArg some (by kernel_rfl))
 f228 := Tryz.func213.trans (congrArg some (by kernel_rfl))
 f231 := Tryz.func188.trans (congrArg some (by kernel_rfl))
 f232 := Tryz.func189.trans (congrArg some (by kernel_rfl))
 f233 := Tryz.func191.trans (congrArg some (by kernel_rfl))
 f234 := Tryz.func192.trans (congrArg some (by kernel_rfl))
 f235 := Tryz.func193.trans (congrArg some (by kernel_rfl))
 f236 := Tryz.func194.trans (congrArg some (by kernel_rfl))
 f260 := Tryz.func115.trans (congrArg some (by kernel_rfl))
 f266 := Tryz.func182.trans (congrArg some (by kernel_rfl))
 f271 := Tryz.func215.trans (congrArg some (by kernel_rfl))
 t0 := Tryz.underlying0
 a0 := Tryz.isAgg0
 z0 := Tryz.sizeOf0
 v0 := Tryz.zeroValue0
 t3 := Tryz.underlying3
 a3 := Tryz.isAgg3
 z3 := Tryz.sizeOf3
 v3 := Tryz.zeroValue3
 t4 := Tryz.underlying4
 a4 := Tryz.isAgg4
 z4 := Tryz.sizeOf4
 v4 := Tryz.zeroValue4
 t5 := Tryz.underlying5
 a5 := Tryz.isAgg5
 z5 := Tryz.sizeOf5
 v5 := Tryz.zeroValue5
 t9 := Tryz.underlying9
 a9 := Tryz.isAgg9
 z9 := Tryz.sizeOf9
 v9 := Tryz.zeroValue9
 t21 := Tryz.underlying21
 a21 := Tryz.isAgg21
 z21 := Tryz.sizeOf21
 v21 := Tryz.zeroValue21
 t46 := Tryz.underlying172
 a46 := Tryz.isAgg172
 z46 := Tryz.sizeOf172
 v46 := Tryz.zeroValue172
 t105 := Tryz.underlying102
 a105 := Tryz.isAgg102
 z105 := Tryz.sizeOf102
 v105 := Tryz.zeroValue102
 t116 := Tryz.underlying228
 a116 := Tryz.isAgg228
 z116 := Tryz.sizeOf228
 t117 := Tryz.underlying229
 a117 := Tryz.isAgg229
 z117 := Tryz.sizeOf229
 v117 := Tryz.zeroValue229
 t119 := Tryz.underlying175
 a119 := Tryz.isAgg175
 z119 := Tryz.sizeOf175
 t124 := Tryz.underlying232
 a124 := Tryz.isAgg232
 z124 := Tryz.sizeOf232
 v124 := Tryz.zeroValue232
 t138 := Tryz.underlying177
 a138 := Tryz.isAgg177
 z138 := Tryz.sizeOf177
 v138 := Tryz.zeroValue177
 t139 := Tryz.underlying178
 a139 := Tryz.isAgg178
 z139 := Tryz.sizeOf178
 v139 := Tryz.zeroValue178
 g3 := by kernel_rfl
 g4 := by kernel_rfl }
def Tryz.lays137_ren : Go.Shelf.Ren := ⟨fun | 137 => 131 | 217 => 156 | 266 => 182 | n => n, fun | 9 => 9 | 5 => 5 | 3 => 3 | n => n, fun | n => n⟩
theorem Tryz.lays137 : Go.Proofs.Lays.n137 Tryz.prog Tryz.lays137_ren := {
 mixed := by kernel_rfl
 f137 := Tryz.func131.trans (congrArg some (by kernel_rfl))
 f217 := Tryz.func156.trans (congrArg some (by kernel_rfl))
 f266 := Tryz.func182.trans (congrArg some (by kernel_rfl))
 t3 := Tryz.underlying3
 a3 := Tryz.isAgg3
 z3 := Tryz.sizeOf3
 v3 := Tryz.zeroValue3
 t5 := Tryz.underlying5
 a5 := Tryz.isAgg5
 z5 := Tryz.sizeOf5
 v5 := Tryz.zeroValue5
 t9 := Tryz.underlying9
 a9 := Tryz.isAgg9
 z9 := Tryz.sizeOf9
 v9 := Tryz.zeroValue9 }
open Go.RowKit in
theorem Tryz.strings_IndexByte (s : ByteArray) (c : Int) (w : World) :
  Calls Tryz.prog 131 #[.string s, .int .u8 c] w fun e w' => e = .returned (.int .i64 (Lib.indexByte s.data.toList c.toNat.toUInt8)) ∧ w' = w := Any.strings_IndexByte Tryz.lays137 s c w
def Tryz.laysC172_ren : Go.Shelf.Ren := ⟨fun | 172 => 163 | 244 => 195 | 245 => 196 | 247 => 216 | 279 => 217 | 280 => 218 | 281 => 219 | 282 => 220 | 287 => 212 | 316 => 228 | 171 => 117 | 205 => 229 | 321 => 224 | 322 => 225 | 243 => 144 | 246 => 143 | 283 => 167 | 284 => 168 | 285 => 169 | 286 => 170 | 129 => 199 | 317 => 198 | 318 => 200 | 319 => 201 | 320 => 202 | 337 => 221 | 338 => 222 | n => n, fun | 9 => 9 | 3 => 3 | 75 => 131 | 76 => 133 | 4 => 4 | 5 => 5 | 167 => 244 | 37 => 22 | 0 => 0 | 85 => 245 | 2 => 2 | 168 => 247 | 53 => 199 | 175 => 224 | 46 => 172 | 210 => 255 | 127 => 136 | 145 => 262 | 143 => 260 | 21 => 21 | 171 => 210 | 173 => 213 | 212 => 235 | 51 => 81 | 20 => 20 | 213 => 236 | 232 => 257 | 233 => 258 | 80 => 90 | n => n, fun | 15 => 6 | 16 => 7 | 17 => 4 | 18 => 8 | 19 => 9 | n => n⟩
theorem Tryz.laysC172 : Go.Proofs.LaysC.n172 Tryz.prog Tryz.laysC172_ren := {
 mixed := by kernel_rfl
 f129 := Tryz.func199.trans (congrArg some (by kernel_rfl))
 f171 := Tryz.func117.trans (congrArg some (by kernel_rfl))
 f172 := Tryz.func163.trans (congrArg some (by kernel_rfl))
 f205 := Tryz.func229.trans (congrArg some (by kernel_rfl))
 f243 := Tryz.func144.trans (congrArg some (by kernel_rfl))
 f244 := Tryz.func195.trans (congrArg some (by kernel_rfl))
 f245 := Tryz.func196.trans (congrArg some (by kernel_rfl))
 f246 := Tryz.func143.trans (congrArg some (by kernel_rfl))
 f247 := Tryz.func216.trans (congrArg some (by kernel_rfl))
 f279 := Tryz.func217.trans (congrArg some (by kernel_rfl))
 f280 := Tryz.func218.trans (congrArg some (by kernel_rfl))
 f281 := Tryz.func219.trans (congrArg some (by kernel_rfl))
 f282 := Tryz.func220.trans (congrArg some (by kernel_rfl))
 f283 := Tryz.func167.trans (congrArg some (by kernel_rfl))
 f284 := Tryz.func168.trans (congrArg some (by kernel_rfl))
 f285 := Tryz.func169.trans (congrArg some (by kernel_rfl))
 f286 := Tryz.func170.trans (congrArg some (by kernel_rfl))
 f287 := Tryz.func212.trans (congrArg some (by kernel_rfl))
 f316 := Tryz.func228.trans (congrArg some (by kernel_rfl))
 f317 := Tryz.func198.trans (congrArg some (by kernel_rfl))
 f318 := Tryz.func200.trans (congrArg some (by kernel_rfl))
 f319 := Tryz.func201.trans (congrArg some (by kernel_rfl))
 f320 := Tryz.func202.trans (congrArg some (by kernel_rfl))
 f321 := Tryz.func224.trans (congrArg some (by kernel_rfl))
 f322 := Tryz.func225.trans (congrArg some (by kernel_rfl))
 f337 := Tryz.func221.trans (congrArg some (by kernel_rfl))
 f338 := Tryz.func222.trans (congrArg some (by kernel_rfl))
 t0 := Tryz.underlying0
 a0 := Tryz.isAgg0
 z0 := Tryz.sizeOf0
 v0 := Tryz.zeroValue0
 t2 := Tryz.underlying2
 a2 := Tryz.isAgg2
 z2 := Tryz.sizeOf2
 v2 := Tryz.zeroValue2
 t3 := Tryz.underlying3
 a3 := Tryz.isAgg3
 z3 := Tryz.sizeOf3
 v3 := Tryz.zeroValue3
 t4 := Tryz.underlying4
 a4 := Tryz.isAgg4
 z4 := Tryz.sizeOf4
 v4 := Tryz.zeroValue4
 t5 := Tryz.underlying5
 a5 := Tryz.isAgg5
 z5 := Tryz.sizeOf5
 v5 := Tryz.zeroValue5
 t9 := Tryz.underlying9
 a9 := Tryz.isAgg9
 z9 := Tryz.sizeOf9
 v9 := Tryz.zeroValue9
 t20 := Tryz.underlying20
 a20 := Tryz.isAgg20
 z20 := Tryz.sizeOf20
 v20 := Tryz.zeroValue20
 t21 := Tryz.underlying21
 a21 := Tryz.isAgg21
 z21 := Tryz.sizeOf21
 v21 := Tryz.zeroValue21
 t37 := Tryz.underlying22
 a37 := Tryz.isAgg22
 z37 := Tryz.sizeOf22
 v37 := Tryz.zeroValue22
 t46 := Tryz.underlying172
 a46 := Tryz.isAgg172
 z46 := Tryz.sizeOf172
 v46 := Tryz.zeroValue172
 t51 := Tryz.underlying81
 a51 := Tryz.isAgg81
 z51 := Tryz.sizeOf81
 v51 := Tryz.zeroValue81
 t53 := Tryz.underlying199
 a53 := Tryz.isAgg199
 z53 := Tryz.sizeOf199
 v53 := Tryz.zeroValue199
 t75 := Tryz.underlying131
 a75 := Tryz.isAgg131
 z75 := Tryz.sizeOf131
 v75 := Tryz.zeroValue131
 t76 := Tryz.underlying133
 a76 := Tryz.isAgg133
 z76 := Tryz.sizeOf133
 v76 := Tryz.zeroValue133
 t85 := Tryz.underlying245
 a85 := Tryz.isAgg245
 z85 := Tryz.sizeOf245
 v85 := Tryz.zeroValue245
 t127 := Tryz.underlying136
 a127 := Tryz.isAgg136
 z127 := Tryz.sizeOf136
 v127 := Tryz.zeroValue136
 t143 := Tryz.underlying260
 a143 := Tryz.isAgg260
 z143 := Tryz.sizeOf260
 v143 := Tryz.zeroValue260
 t145 := Tryz.underlying262
 a145 := Tryz.isAgg262
 z145 := Tryz.sizeOf262
 v145 := Tryz.zeroValue262
 t167 := Tryz.underlying244
 a167 := Tryz.isAgg244
 z167 := Tryz.sizeOf244
 v167 := Tryz.zeroValue244
 t168 := Tryz.underlying247
 a168 := Tryz.isAgg247
 z168 := Tryz.sizeOf247
 v168 := Tryz.zeroValue247
 t171 := Tryz.underlying210
 a171 := Tryz.isAgg210
 z171 := Tryz.sizeOf210
 v171 := Tryz.zeroValue210
 t173 := Tryz.underlying213
 a173 := Tryz.isAgg213
 z173 := Tryz.sizeOf213
 v173 := Tryz.zeroValue213
 t175 := Tryz.underlying224
 a175 := Tryz.isAgg224
 z175 := Tryz.sizeOf224
 v175 := Tryz.zeroValue224
 t210 := Tryz.underlying255
 a210 := Tryz.isAgg255
 z210 := Tryz.sizeOf255
 v210 := Tryz.zeroValue255
 t212 := Tryz.underlying235
 a212 := Tryz.isAgg235
 z212 := Tryz.sizeOf235
 v212 := Tryz.zeroValue235
 t213 := Tryz.underlying236
 a213 := Tryz.isAgg236
 z213 := Tryz.sizeOf236
 t232 := Tryz.underlying257
 a232 := Tryz.isAgg257
 z232 := Tryz.sizeOf257
 v232 := Tryz.zeroValue257
 t233 := Tryz.underlying258
 a233 := Tryz.isAgg258
 z233 := Tryz.sizeOf258
 v233 := Tryz.zeroValue258
 g15 := by kernel_rfl
 g16 := by kernel_rfl
 g17 := by kernel_rfl
 g18 := by kernel_rfl
 g19 := by kernel_rfl
 t80 := Tryz.underlying90
 a80 := Tryz.isAgg90
 z80 := Tryz.sizeOf90
 v80 := Tryz.zeroValue90
 i0 := by kernel_rfl
 i2 := by kernel_rfl
 i3 := by kernel_rfl
 i4 := by kernel_rfl
 i5 := by kernel_rfl
 i9 := by kernel_rfl
 i20 := by kernel_rfl
 i21 := by kernel_rfl
 i37 := by kernel_rfl
 i46 := by kernel_rfl
 i51 := by kernel_rfl
 i53 := by kernel_rfl
 i75 := by kernel_rfl
 i76 := by kernel_rfl
 i80 := by kernel_rfl
 i85 := by kernel_rfl
 i127 := by kernel_rfl
 i143 := by kernel_rfl
 i145 := by kernel_rfl
 i167 := by kernel_rfl
 i168 := by kernel_rfl
 i171 := by kernel_rfl
 i173 := by kernel_rfl
 i175 := by kernel_rfl
 i210 := by kernel_rfl
 i212 := by kernel_rfl
 i232 := by kernel_rfl
 i233 := by kernel_rfl
 m15 := by kernel_rfl
 m16 := by kernel_rfl
 m17 := by kernel_rfl
 m18 := by kernel_rfl
 m19 := by kernel_rfl
 c0 := by kernel_rfl
 c2 := by kernel_rfl
 c3 := by kernel_rfl
 c4 := by kernel_rfl
 c5 := by kernel_rfl
 c9 := by kernel_rfl
 c20 := by kernel_rfl
 c21 := by kernel_rfl
 c37 := by kernel_rfl
 c46 := by kernel_rfl
 c51 := by kernel_rfl
 c53 := by kernel_rfl
 c75 := by kernel_rfl
 c76 := by kernel_rfl
 c80 := by kernel_rfl
 c85 := by kernel_rfl
 c127 := by kernel_rfl
 c143 := by kernel_rfl
 c145 := by kernel_rfl
 c167 := by kernel_rfl
 c168 := by kernel_rfl
 c171 := by kernel_rfl
 c173 := by kernel_rfl
 c175 := by kernel_rfl
 c210 := by kernel_rfl
 c212 := by kernel_rfl
 c213 := by kernel_rfl
 c232 := by kernel_rfl
 c233 := by kernel_rfl }
open Go.RowKit in
theorem Tryz.strconv_Atoi_ok (s : ByteArray) (hmax : s.size ≤ 9223372036854775806) (v : Int) (h : Lib.atoiAll s.data.toList = .ok v) (w : World) :
  Calls Tryz.prog 163 #[.string s] w fun e w' => e = .returned (.tuple #[.int .i64 v, .nilIface]) ∧ (w' = w ∨ ∃ t, w' = Lib.bytesWorld w 5 t) := Any.strconv_Atoi_ok Tryz.laysC172 s hmax v h w
open Go.RowKit in
theorem Tryz.strconv_Atoi_syntax (s : ByteArray) (hlim : s.size ≤ 281474976710656) (h : Lib.atoiAll s.data.toList = Lib.atoiAll []) (ev : Value) (w : World) (hv : w.cell? ⟨6, 0, none⟩ = some ev) (hev : ev = .nilIface ∨ ∃ te pe, ev = .iface te pe) :
  Calls Tryz.prog 163 #[.string s] w fun e w' => ∃ N, e = .returned (.tuple #[.int .i64 (0), .iface 247 (.pointer (some ⟨N, 0, none⟩))]) ∧ w.heap.size ≤ N ∧ w'.heap[N]? = some (.cells #[.string ⟨#[65, 116, 111, 105]⟩, .string s, ev] 255 (0, 0)) ∧ Below w.heap.size w w' := Any.strconv_Atoi_syntax Tryz.laysC172 s hlim h ev w hv hev
open Go.RowKit in
theorem Tryz.strconv_Atoi_range (s : ByteArray) (hlim : s.size ≤ 281474976710656) (h : Lib.atoiAll s.data.toList = .range) (ev : Value) (w : World) (hv : w.cell? ⟨7, 0, none⟩ = some ev) (hev : ev = .nilIface ∨ ∃ te pe, ev = .iface te pe) :
  Calls Tryz.prog 163 #[.string s] w fun e w' => ∃ N, e = .returned (.tuple #[.int .i64 (Lib.atoiSat s.data.toList), .iface 247 (.pointer (some ⟨N, 0, none⟩))]) ∧ w.heap.size ≤ N ∧ w'.heap[N]? = some (.cells #[.string ⟨#[65, 116, 111, 105]⟩, .string s, ev] 255 (0, 0)) ∧ Below w.heap.size w w' := Any.strconv_Atoi_range Tryz.laysC172 s hlim h ev w hv hev
def Tryz.lays99_ren : Go.Shelf.Ren := ⟨fun | 99 => 138 | 206 => 165 | n => n, fun | 9 => 9 | 4 => 4 | 3 => 3 | n => n, fun | n => n⟩
theorem Tryz.lays99 : Go.Proofs.Lays.n99 Tryz.prog Tryz.lays99_ren := {
 mixed := by kernel_rfl
 f99 := Tryz.func138.trans (congrArg some (by kernel_rfl))
 f206 := Tryz.func165.trans (congrArg some (by kernel_rfl))
 t3 := Tryz.underlying3
 a3 := Tryz.isAgg3
 z3 := Tryz.sizeOf3
 v3 := Tryz.zeroValue3
 t4 := Tryz.underlying4
 a4 := Tryz.isAgg4
 z4 := Tryz.sizeOf4
 v4 := Tryz.zeroValue4
 t9 := Tryz.underlying9
 a9 := Tryz.isAgg9
 z9 := Tryz.sizeOf9
 v9 := Tryz.zeroValue9 }
open Go.RowKit Go.Lib in
theorem Tryz.strings_HasPrefix (s p : ByteArray) (w : World) :
  Calls Tryz.prog 138 #[.string s, .string p] w fun e w' => e = .returned (.bool (Lib.hasPrefix s.data.toList p.data.toList)) ∧ w' = w := Any.strings_HasPrefix Tryz.lays99 s p w
def Tryz.lays101_ren : Go.Shelf.Ren := ⟨fun | 101 => 160 | 208 => 187 | 206 => 165 | n => n, fun | 9 => 9 | 4 => 4 | 3 => 3 | n => n, fun | n => n⟩
theorem Tryz.lays101 : Go.Proofs.Lays.n101 Tryz.prog Tryz.lays101_ren := {
 mixed := by kernel_rfl
 f101 := Tryz.func160.trans (congrArg some (by kernel_rfl))
 f206 := Tryz.func165.trans (congrArg some (by kernel_rfl))
 f208 := Tryz.func187.trans (congrArg some (by kernel_rfl))
 t3 := Tryz.underlying3
 a3 := Tryz.isAgg3
 z3 := Tryz.sizeOf3
 v3 := Tryz.zeroValue3
 t4 := Tryz.underlying4
 a4 := Tryz.isAgg4
 z4 := Tryz.sizeOf4
 v4 := Tryz.zeroValue4
 t9 := Tryz.underlying9
 a9 := Tryz.isAgg9
 z9 := Tryz.sizeOf9
 v9 := Tryz.zeroValue9 }
open Go.RowKit Go.Lib in
theorem Tryz.strings_TrimPrefix (s p : ByteArray) (w : World) :
  Calls Tryz.prog 160 #[.string s, .string p] w fun e w' => e = .returned (.string ⟨(Lib.trimPrefix s.data.toList p.data.toList).toArray⟩) ∧ w' = w := Any.strings_TrimPrefix Tryz.lays101 s p w
def Tryz.lays197_ren : Go.Shelf.Ren := ⟨fun | 197 => 87 | 260 => 115 | n => n, fun | 9 => 9 | 21 => 21 | 3 => 3 | 4 => 4 | 5 => 5 | 105 => 102 | 119 => 175 | 0 => 0 | 46 => 172 | 139 => 178 | 138 => 177 | n => n, fun | 3 => 2 | 4 => 3 | n => n⟩
theorem Tryz.lays197 : Go.Proofs.Lays.n197 Tryz.prog Tryz.lays197_ren := {
 mixed := by kernel_rfl
 f197 := Tryz.func87.trans (congrArg some (by kernel_rfl))
 f260 := Tryz.func115.trans (congrArg some (by kernel_rfl))
 t0 := Tryz.underlying0
 a0 := Tryz.isAgg0
 z0 := Tryz.sizeOf0
 v0 := Tryz.zeroValue0
 t3 := Tryz.underlying3
 a3 := Tryz.isAgg3
 z3 := Tryz.sizeOf3
 v3 := Tryz.zeroValue3
 t4 := Tryz.underlying4
 a4 := Tryz.isAgg4
 z4 := Tryz.sizeOf4
 v4 := Tryz.zeroValue4
 t5 := Tryz.underlying5
 a5 := Tryz.isAgg5
 z5 := Tryz.sizeOf5
 v5 := Tryz.zeroValue5
 t9 := Tryz.underlying9
 a9 := Tryz.isAgg9
 z9 := Tryz.sizeOf9
 v9 := Tryz.zeroValue9
 t21 := Tryz.underlying21
 a21 := Tryz.isAgg21
 z21 := Tryz.sizeOf21
 v21 := Tryz.zeroValue21
 t46 := Tryz.underlying172
 a46 := Tryz.isAgg172
 z46 := Tryz.sizeOf172
 v46 := Tryz.zeroValue172
 t105 := Tryz.underlying102
 a105 := Tryz.isAgg102
 z105 := Tryz.sizeOf102
 v105 := Tryz.zeroValue102
 t119 := Tryz.underlying175
 a119 := Tryz.isAgg175
 z119 := Tryz.sizeOf175
 t138 := Tryz.underlying177
 a138 := Tryz.isAgg177
 z138 := Tryz.sizeOf177
 v138 := Tryz.zeroValue177
 t139 := Tryz.underlying178
 a139 := Tryz.isAgg178
 z139 := Tryz.sizeOf178
 v139 := Tryz.zeroValue178
 g3 := by kernel_rfl
 g4 := by kernel_rfl }
open Go.RowKit Go.Lib in
theorem Tryz.utf8_DecodeRuneInString (s : ByteArray) (w : World) (hT : Lib.Utf8Tabs 2 3 w) :
  Calls Tryz.prog 87 #[.string s] w fun e w' => e = .returned (.tuple #[.int .i32 (Lib.decodeGo s).1, .int .i64 (Lib.decodeGo s).2]) ∧ Below w.heap.size w w' := Any.utf8_DecodeRuneInString Tryz.lays197 s w hT
def Tryz.lays7n32_ren : Go.Shelf.Ren := ⟨fun | 32 => 61 | 49 => 99 | n => n, fun | 30 => 22 | 21 => 21 | 3 => 3 | 0 => 0 | 5 => 5 | 4 => 4 | 33 => 102 | 66 => 175 | 25 => 172 | 69 => 178 | 68 => 177 | n => n, fun | 2 => 2 | 3 => 3 | n => n⟩
theorem Tryz.lays7n32 : Go.Proofs.Lays7.n32 Tryz.prog Tryz.lays7n32_ren := {
 mixed := by kernel_rfl
 f32 := Tryz.func61.trans (congrArg some (by kernel_rfl))
 f49 := Tryz.func99.trans (congrArg some (by kernel_rfl))
 t0 := Tryz.underlying0
 a0 := Tryz.isAgg0
 z0 := Tryz.sizeOf0
 v0 := Tryz.zeroValue0
 i0 := by kernel_rfl
 t3 := Tryz.underlying3
 a3 := Tryz.isAgg3
 z3 := Tryz.sizeOf3
 v3 := Tryz.zeroValue3
 i3 := by kernel_rfl
 t4 := Tryz.underlying4
 a4 := Tryz.isAgg4
 z4 := Tryz.sizeOf4
 v4 := Tryz.zeroValue4
 i4 := by kernel_rfl
 t5 := Tryz.underlying5
 a5 := Tryz.isAgg5
 z5 := Tryz.sizeOf5
 v5 := Tryz.zeroValue5
 i5 := by kernel_rfl
 t21 := Tryz.underlying21
 a21 := Tryz.isAgg21
 z21 := Tryz.sizeOf21
 v21 := Tryz.zeroValue21
 i21 := by kernel_rfl
 t25 := Tryz.underlying172
 a25 := Tryz.isAgg172
 z25 := Tryz.sizeOf172
 v25 := Tryz.zeroValue172
 i25 := by kernel_rfl
 t30 := Tryz.underlying22
 a30 := Tryz.isAgg22
 z30 := Tryz.sizeOf22
 v30 := Tryz.zeroValue22
 i30 := by kernel_rfl
 t33 := Tryz.underlying102
 a33 := Tryz.isAgg102
 z33 := Tryz.sizeOf102
 v33 := Tryz.zeroValue102
 i33 := by kernel_rfl
 t66 := Tryz.underlying175
 a66 := Tryz.isAgg175
 z66 := Tryz.sizeOf175
 t68 := Tryz.underlying177
 a68 := Tryz.isAgg177
 z68 := Tryz.sizeOf177
 v68 := Tryz.zeroValue177
 i68 := by kernel_rfl
 t69 := Tryz.underlying178
 a69 := Tryz.isAgg178
 z69 := Tryz.sizeOf178
 v69 := Tryz.zeroValue178
 i69 := by kernel_rfl
 g2 := by kernel_rfl
 g3 := by kernel_rfl }
open Go.RowKit in
theorem Tryz.utf8_DecodeRune (s : ByteArray) (b off cap : Nat) (w : World) (hT : Lib.Utf8Tabs 2 3 w) (hp : ∀ j, j < s.size → w.cell? ⟨b, off + j, none⟩ = some (.int .u8 (s.get! j).toNat)) :
  Calls Tryz.prog 61 #[.slice (some ⟨b, off, none⟩) s.size cap] w fun e w' => e = .returned (.tuple #[.int .i32 (Lib.decodeGo s).1, .int .i64 (Lib.decodeGo s).2]) ∧ Below w.heap.size w w' := Any7.utf8_DecodeRune Tryz.lays7n32 s b off cap w hT hp
end Go.Proofs
end
section
set_option linter.unusedVariables false
set_option linter.unusedSimpArgs false
namespace Go.Proofs.YtenkkekooimpjaaGreatDoor.Ev
open Go Go.RowKit
def errV (b : Bool) (v : Value) : Prop := if b = true then ∃ t u, v = .iface t u else v = .nilIface
theorem Fn.of_below_ie {P : Program} {f : FuncId} (xs : List FV) {vs : List Value} {n : Int} {b : Bool} (hx : xs.mapM bareV = some vs)
  (hc : ∀ w, Glob w → Calls P f vs.toArray w fun e w' => (∃ v, e = .returned (.tuple #[.int .i64 n, v]) ∧ errV b v) ∧ Below w.heap.size w w') : Fn P f (xs.map fun x => .one (.fz x)) [] (.tup [(false, [.fz (.int .i64 n)]), (false, [.fz (.ifc b)])]) [] := by
 intro ext w locs vals H hsz hrep
 have e : vals = vs.toArray := by
  have := args_bare xs vs vals.toList hx (by simpa using hsz) (fun i x h => by obtain ⟨v, h1, h2⟩ := hrep i x h; exact ⟨v, by simpa using h1, h2⟩)
  rw [← this]
 subst e
 refine (hc w H.glob).mono ?_
 rintro e w' ⟨⟨v, rfl, hv⟩, hb⟩
 refine ⟨.tuple #[.int .i64 n, v], locs, rfl, H.below hb, #[.int .i64 n, v], rfl, rfl, fun i b' cs hi => ?_⟩
 match i with
 | 0 =>
  cases hi
  refine ⟨.int .i64 n, rfl, [.int .i64 n], rfl, rfl, fun _ => rfl, fun j x hj => ?_⟩
  cases j with
  | zero => cases hj; exact ⟨_, rfl, .int _ _⟩
  | succ j => simp at hj
 | 1 =>
  cases hi
  refine ⟨v, rfl, [v], rfl, rfl, fun _ => rfl, fun j x hj => ?_⟩
  cases j with
  | zero =>
   cases hj
   refine ⟨v, rfl, ?_⟩
   cases b
   ·have : v = .nilIface := hv
    subst this
    exact .ifcN
   ·obtain ⟨t, u, rfl⟩ := hv
    exact .ifcS _ _
  | succ j => simp at hj
 | i + 2 => simp at hi
theorem tab_ifc {w : World} {g : Nat} (h : TabAt w (fun _ => True) g [.ifc true]) : ∃ t u, w.cell? ⟨g, 0, none⟩ = some (.iface t u) := by
 obtain ⟨c, t, z, h1, h2, h3⟩ := h
 obtain ⟨v, hv, hr⟩ := h3 0 _ rfl
 cases hr
 rename_i t' v'
 exact ⟨t', v', by simp [World.cell?, h1, hv]⟩
def atoiV (s : ByteArray) : Int := match Lib.atoiAll s.data.toList with
 | .ok v => v
 | .range => Lib.atoiSat s.data.toList
 | _ => 0
def atoiE (s : ByteArray) : Bool := match Lib.atoiAll s.data.toList with
 | .ok _ => false
 | _ => true
theorem Atoi_fn (s : ByteArray) (hs : s.size ≤ 281474976710656) : Fn Tryz.prog 163 [.one (.fz (.str s))] [] (.tup [(false, [.fz (.int .i64 (atoiV s))]), (false, [.fz (.ifc (atoiE s))])]) [] :=
 Fn.of_below_ie [.str s] rfl fun w hg => by
  unfold atoiV atoiE
  cases h : Lib.atoiAll s.data.toList
  case ok v =>
   refine (Tryz.strconv_Atoi_ok s (by omega) v h w).mono ?_
   rintro e w' ⟨rfl, hw⟩
   refine ⟨⟨_, rfl, rfl⟩, ?_⟩
   rcases hw with rfl | ⟨t, rfl⟩
   ·exact Below.refl _ _
   ·exact Lib.bytesWorld_below _ _ _
  case range =>
   have h1 := hg (7, [.ifc true]) (by simp [tabs])
   obtain ⟨t, u, h2⟩ := tab_ifc h1
   refine (Tryz.strconv_Atoi_range s hs h _ w h2 (.inr ⟨_, _, rfl⟩)).mono ?_
   rintro e w' ⟨N, rfl, _, _, hb⟩
   exact ⟨⟨_, rfl, _, _, rfl⟩, hb⟩
  all_goals
   have h1 := hg (6, [.ifc true]) (by simp [tabs])
   obtain ⟨t, u, h2⟩ := tab_ifc h1
   refine (Tryz.strconv_Atoi_syntax s hs h _ w h2 (.inr ⟨_, _, rfl⟩)).mono ?_
   rintro e w' ⟨N, rfl, _, _, hb⟩
   exact ⟨⟨_, rfl, _, _, rfl⟩, hb⟩
theorem TrimPrefix_fn (s p : ByteArray) : Fn Tryz.prog 160 [.one (.fz (.str s)), .one (.fz (.str p))] [] (.one (.fz (.str ⟨(Lib.trimPrefix s.data.toList p.data.toList).toArray⟩))) [] :=
 Fn.of_below [.str s, .str p] rfl rfl fun w hg => (Tryz.strings_TrimPrefix s p w).mono fun e w' ⟨h1, h2⟩ => ⟨h1, h2 ▸ Below.refl _ _⟩
theorem TrimLeft_fn (s : ByteArray) (c : UInt8) (hc : c.toNat < 128) : Fn Tryz.prog 162 [.one (.fz (.str s)), .one (.fz (.str ⟨#[c]⟩))] [] (.one (.fz (.str ⟨(Lib.trimLeftB s.data.toList c).toArray⟩))) [] :=
 Fn.of_below [.str s, .str ⟨#[c]⟩] rfl rfl fun w hg => (Tryz.strings_TrimLeft_one s c hc w).mono fun e w' ⟨h1, h2⟩ => ⟨h1, h2 ▸ Below.refl _ _⟩
theorem Trim_fn (s cs : ByteArray) (hs : s.size ≤ 9223372036854775807) (hcs : cs.size < 4294967281) (ha : cs.data.toList.all (fun b => decide (b.toNat < 128)) = true) :
  Fn Tryz.prog 161 [.one (.fz (.str s)), .one (.fz (.str cs))] [] (.one (.fz (.str ⟨(Lib.trimS s.data.toList cs.data.toList).toArray⟩))) [] :=
 Fn.of_below [.str s, .str cs] rfl rfl fun w hg => Any.strings_Trim_laid Tryz.lays160 (by kernel_rfl) s cs w hs hcs (ascii_of_all ha)
end Go.Proofs.YtenkkekooimpjaaGreatDoor.Ev
end
