/-
  Part of a claim: definitions and lemmas that its theorem leans on, packed by wip/tools/pack.py.
-/
import Derived.Test.YtejefchehdifhaaGreatDoorZJ1
import Derived.ChangeReads
import Derived.ChangeOld
import Derived.DataReads
import Derived.Carry
import Derived.Below
import Derived.SizedLaws
import Derived.OpenShut
import Derived.Lib.SmallJoins
set_option linter.unusedVariables false
set_option linter.unusedSimpArgs false
section
set_option linter.unusedVariables false
set_option linter.unusedSimpArgs false
namespace Go.Proofs.YtejefchehdifhaaGreatDoor.Ev
open Go
theorem getO_congr {h h' : List Ob} {o : Nat} (e : h'[o]? = h[o]?) : getO h' o = getO h o := by simp [getO, List.getD_eq_getElem?_getD, e]
theorem frzA_congr {h h' : List Ob} {a : AV} {v : FV} {i : List Nat} (hf : frzA h a = some (v, i)) (hi : ∀ k ∈ i, h'[k]? = h[k]?) : frzA h' a = some (v, i) := by
  unfold frzA at hf ⊢
  split at hf
  · rename_i sz o
    have ho : getO h' o = getO h o := by
      refine getO_congr (hi o ?_)
      split at hf
      · split at hf
        · cases hf; simp
        · cases hf
      · split at hf
        · cases hf; simp
        · cases hf
      · cases hf
    simp only [ho]
    exact hf
  · exact hf
theorem frzAs_congr {h h' : List Ob} : ∀ {cs : List AV} {l : List FV} {i : List Nat}, frzAs h cs = some (l, i) → (∀ k ∈ i, h'[k]? = h[k]?) → frzAs h' cs = some (l, i)
  | [], l, i, hf, hi => hf
  | a :: r, l, i, hf, hi => by
    unfold frzAs at hf ⊢
    split at hf
    · rename_i v i1 hv
      split at hf
      · rename_i l' i2 hl'
        cases hf
        rw [frzA_congr hv (fun k hk => hi k (by simp [hk])), frzAs_congr hl' (fun k hk => hi k (by simp [hk]))]
      · cases hf
    · cases hf
theorem frzTO_congr {h h' : List Ob} {t r : TV} {i : List Nat} (hf : frzTO h t = some (r, i)) (hi : ∀ k ∈ i, h'[k]? = h[k]?) : frzTO h' t = some (r, i) := by
  unfold frzTO at hf ⊢
  split at hf
  · split at hf
    · rename_i a v i1 hv
      cases hf
      simp [frzA_congr hv hi]
    · cases hf
  · split at hf
    · rename_i cs l i1 hl
      cases hf
      simp [frzAs_congr hl hi]
    · cases hf
  · cases hf
theorem frzTOs_congr {h h' : List Ob} : ∀ {ts rs : List TV} {i : List Nat}, frzTOs h ts = some (rs, i) → (∀ k ∈ i, h'[k]? = h[k]?) → frzTOs h' ts = some (rs, i)
  | [], rs, i, hf, hi => hf
  | a :: r, rs, i, hf, hi => by
    unfold frzTOs at hf ⊢
    split at hf
    · rename_i v i1 hv
      split at hf
      · rename_i l' i2 hl'
        cases hf
        rw [frzTO_congr hv (fun k hk => hi k (by simp [hk])), frzTOs_congr hl' (fun k hk => hi k (by simp [hk]))]
      · cases hf
    · cases hf
theorem zs_congr : ∀ (rd : List Nat) {h h' : List Ob}, (∀ k ∈ rd, h'[k]? = h[k]?) → zs h' rd = zs h rd
  | [], _, _, _ => rfl
  | o :: r, h, h', hr => by
    unfold zs
    rw [getO_congr (hr o (by simp))]
    split
    · rename_i et sz es hg
      have ho : h[o]? = some (.f et sz es) := getO_some hg (by simp)
      have ho' : h'[o]? = some (.f et sz es) := by rw [hr o (by simp)]; exact ho
      rw [zs_congr (h := h.set o (.z sz es)) (h' := h'.set o (.z sz es)) r (fun k hk => by rw [set_get ho', set_get ho, hr k (by simp [hk])])]
    · exact zs_congr r (fun k hk => hr k (by simp [hk]))
def FV.bare : FV → Bool
  | .int .. | .bool _ | .str _ | .ifc _ => true
  | _ => false
theorem exC_bare : ∀ {ks : List CK} {K : List FV → Prop}, ks.all CK.bare = true → exC ks K → ∃ cs, K cs ∧ ∀ v ∈ cs, v.bare = true
  | [], K, _, h => ⟨[], h, by simp⟩
  | .int k :: r, K, hb, ⟨n, h⟩ => let ⟨cs, hc, hv⟩ := exC_bare (by simp only [List.all_cons, Bool.and_eq_true] at hb; exact hb.2) h; ⟨_, hc, by simp only [List.mem_cons]; rintro v (rfl | h); exact rfl; exact hv v h⟩
  | .bool :: r, K, hb, ⟨n, h⟩ => let ⟨cs, hc, hv⟩ := exC_bare (by simp only [List.all_cons, Bool.and_eq_true] at hb; exact hb.2) h; ⟨_, hc, by simp only [List.mem_cons]; rintro v (rfl | h); exact rfl; exact hv v h⟩
  | .str :: r, K, hb, ⟨n, h⟩ => let ⟨cs, hc, hv⟩ := exC_bare (by simp only [List.all_cons, Bool.and_eq_true] at hb; exact hb.2) h; ⟨_, hc, by simp only [List.mem_cons]; rintro v (rfl | h); exact rfl; exact hv v h⟩
  | .ifc :: r, K, hb, ⟨n, h⟩ => let ⟨cs, hc, hv⟩ := exC_bare (by simp only [List.all_cons, Bool.and_eq_true] at hb; exact hb.2) h; ⟨_, hc, by simp only [List.mem_cons]; rintro v (rfl | h); exact rfl; exact hv v h⟩
  | .sl sz :: r, K, hb, h => by simp [CK.bare] at hb
  | .x :: r, K, hb, h => by simp [CK.bare] at hb
def allFz (l : List (Bool × List AV)) : Prop := ∀ (b : Bool) (cs : List AV), (b, cs) ∈ l → ∃ fs : List FV, cs = fs.map .fz
def allBare (l : List (Bool × List AV)) : Prop := ∀ (b : Bool) (cs : List AV), (b, cs) ∈ l → ∃ fs : List FV, cs = fs.map .fz ∧ ∀ v ∈ fs, v.bare = true
theorem exRs_fz {P : Program} : ∀ {ts : List TypeId} {K : List (Bool × List AV) → Prop}, exRs P ts K → ∃ l, K l ∧ allFz l
  | [], K, h => ⟨[], h, fun _ _ h => by cases h⟩
  | t :: r, K, h => by
    obtain ⟨cs, h⟩ := exC_out h
    obtain ⟨l, h, hl⟩ := exRs_fz h
    refine ⟨_, h, fun b c hm => ?_⟩
    cases hm with
    | head => exact ⟨cs, rfl⟩
    | tail _ hm => exact hl b c hm
theorem exRs_bare {P : Program} : ∀ {ts : List TypeId} {K : List (Bool × List AV) → Prop}, ts.all (fun t => (kinds P t).all CK.bare) = true → exRs P ts K → ∃ l, K l ∧ allBare l
  | [], K, _, h => ⟨[], h, fun _ _ h => by cases h⟩
  | t :: r, K, hb, h => by
    simp only [List.all_cons, Bool.and_eq_true] at hb
    obtain ⟨cs, h, hv⟩ := exC_bare hb.1 h
    obtain ⟨l, h, hl⟩ := exRs_bare hb.2 h
    refine ⟨_, h, fun b c hm => ?_⟩
    cases hm with
    | head => exact ⟨cs, rfl, hv⟩
    | tail _ hm => exact hl b c hm
theorem RF.bare {w w' : World} {B B' : Nat → Prop} {x : FV} {v : Value} (hb : x.bare = true) (h : RF w B x v) : RF w' B' x v := by
  cases h <;> first | exact .int _ _ | exact .bool _ | exact .str _ | exact .ifcN | exact .ifcS _ _ | cases hb
theorem RC.bare {w w' : World} {B B' : Nat → Prop} {locs locs' : Nat → Option Loc} {b : Bool} {fs : List FV} {v : Value} (hb : ∀ x ∈ fs, x.bare = true) (h : RC w B locs b (fs.map .fz) v) : RC w' B' locs' b (fs.map .fz) v := by
  obtain ⟨vs, h1, h2, h3, h4⟩ := h
  refine ⟨vs, h1, h2, h3, fun j x hx => ?_⟩
  obtain ⟨y, hy, rfl⟩ := map_fz hx
  obtain ⟨u, hu, hr⟩ := h4 j _ hx
  exact ⟨u, hu, RF.bare (hb y (List.mem_of_getElem? hy)) hr⟩
theorem toTV_rep {w w' : World} {B B' : Nat → Prop} {locs locs' : Nat → Option Loc} {l l' : List (Bool × List AV)} (hl : l'.length = l.length)
    (hc : ∀ (i : Nat) (b : Bool) (cs : List AV), l[i]? = some (b, cs) → ∃ cs', l'[i]? = some (b, cs') ∧ cs'.length = cs.length ∧ ∀ v, RC w B locs b cs v → RC w' B' locs' b cs' v) {v : Value} (h : RT w B locs (toTV l) v) : RT w' B' locs' (toTV l') v := by
  have key : ∀ ts ts' : List (Bool × List AV), ts'.length = ts.length → (∀ (i : Nat) (b : Bool) (cs : List AV), ts[i]? = some (b, cs) → ∃ cs', ts'[i]? = some (b, cs') ∧ cs'.length = cs.length ∧ ∀ v, RC w B locs b cs v → RC w' B' locs' b cs' v) →
      RT w B locs (.tup ts) v → RT w' B' locs' (.tup ts') v := by
    rintro ts ts' h1 h2 ⟨vs, h3, h4, h5⟩
    refine ⟨vs, h3, by rw [h4, h1], fun i b cs' hi => ?_⟩
    have hlt : i < ts.length := by
      rcases Nat.lt_or_ge i ts'.length with h' | h'
      · omega
      · rw [List.getElem?_eq_none h'] at hi; cases hi
    obtain ⟨cs'', h6, _, h7⟩ := h2 i ts[i].1 ts[i].2 (List.getElem?_eq_getElem _)
    rw [hi] at h6
    cases h6
    obtain ⟨u, hu, hr⟩ := h5 i _ _ (List.getElem?_eq_getElem (l := ts) hlt)
    exact ⟨u, hu, h7 u hr⟩
  cases l with
  | nil =>
    cases l' with
    | nil => exact key [] [] rfl hc h
    | cons _ _ => simp at hl
  | cons p r =>
    cases l' with
    | nil => simp at hl
    | cons p' r' =>
      obtain ⟨b, cs⟩ := p
      obtain ⟨cs', h1, h2, h3⟩ := hc 0 b cs rfl
      cases h1
      cases r with
      | cons q r =>
        cases r' with
        | nil => simp at hl
        | cons q' r' =>
          have e1 : ∀ (p q : Bool × List AV) (r : List (Bool × List AV)), toTV (p :: q :: r) = .tup (p :: q :: r) := by
            intro p q r; rcases p with ⟨_ | _, _ | ⟨_, _ | _⟩⟩ <;> rfl
          rw [e1] at h ⊢
          exact key _ _ hl hc h
      | nil =>
        cases r' with
        | cons _ _ => simp at hl
        | nil =>
          cases b with
          | true => exact h3 v h
          | false =>
            cases cs with
            | nil =>
              have : cs' = [] := List.eq_nil_of_length_eq_zero h2
              subst this
              exact key _ _ rfl hc h
            | cons a cs =>
              cases cs with
              | nil =>
                obtain ⟨a', rfl⟩ : ∃ a', cs' = [a'] := List.length_eq_one_iff.1 h2
                have := h3 v ⟨[v], rfl, rfl, fun _ => rfl, fun j x hx => by
                  cases j with
                  | zero => cases hx; exact ⟨v, rfl, h⟩
                  | succ j => simp at hx⟩
                obtain ⟨vs, h4, h5, h6, h7⟩ := this
                obtain ⟨u, hu, hr⟩ := h7 0 a' rfl
                cases vs with
                | nil => simp at hu
                | cons y ys => cases hu; rw [h4]; exact hr
              | cons a2 cs =>
                obtain ⟨a', b', c', rfl⟩ : ∃ a' b' c', cs' = a' :: b' :: c' := by
                  match cs', h2 with
                  | x :: y :: z, _ => exact ⟨x, y, z, rfl⟩
                exact key [(false, a :: a2 :: cs)] [(false, a' :: b' :: c')] rfl hc h
def AV.sh (n : Nat) : AV → AV
  | .ofl sz o => .ofl sz (n + o)
  | a => a
theorem ownA_sh (n k : Nat) : ∀ (fs : List FV), (ownA (n + k) (fs.map .fz)).1 = (ownA k (fs.map .fz)).1.map (AV.sh n) ∧ (ownA (n + k) (fs.map .fz)).2 = (ownA k (fs.map .fz)).2 := by
  intro fs
  induction fs generalizing k with
  | nil => exact ⟨rfl, rfl⟩
  | cons v fs ih =>
    cases v with
    | sl sz es =>
      obtain ⟨h1, h2⟩ := ih (k + 1)
      simp only [List.map_cons, ownA]
      rw [Nat.add_assoc, h1, h2]
      exact ⟨rfl, rfl⟩
    | _ =>
      obtain ⟨h1, h2⟩ := ih k
      simp only [List.map_cons, ownA]
      rw [h1, h2]
      exact ⟨rfl, rfl⟩
theorem ownR_sh (n : Nat) : ∀ (l : List (Bool × List AV)) (k : Nat), allFz l → (ownR (n + k) l).1 = (ownR k l).1.map (fun p => (p.1, p.2.map (AV.sh n))) ∧ (ownR (n + k) l).2 = (ownR k l).2
  | [], k, _ => ⟨rfl, rfl⟩
  | (b, cs) :: r, k, hl => by
    obtain ⟨fs, rfl⟩ := hl b cs (by simp)
    obtain ⟨h1, h2⟩ := ownA_sh n k fs
    obtain ⟨h3, h4⟩ := ownR_sh n r (k + (ownA k (fs.map .fz)).2.length) (fun b cs hm => hl b cs (by simp [hm]))
    simp only [ownR]
    rw [h2, h1, Nat.add_assoc, h3, h4]
    exact ⟨rfl, rfl⟩
theorem ownA_f (k : Nat) : ∀ (fs : List FV) (ob : Ob), ob ∈ (ownA k (fs.map .fz)).2 → ∃ et sz es, ob = .f et sz es := by
  intro fs
  induction fs generalizing k with
  | nil => intro ob h; cases h
  | cons v fs ih =>
    intro ob h
    cases v with
    | sl sz es =>
      simp only [List.map_cons, ownA] at h
      cases h with
      | head => exact ⟨_, _, _, rfl⟩
      | tail _ h => exact ih _ ob h
    | _ => simp only [List.map_cons, ownA] at h; exact ih _ ob h
theorem ownR_f : ∀ (l : List (Bool × List AV)) (k : Nat), allFz l → ∀ (ob : Ob), ob ∈ (ownR k l).2 → ∃ et sz es, ob = .f et sz es
  | [], k, _, ob, h => by cases h
  | (b, cs) :: r, k, hl, ob, h => by
    obtain ⟨fs, rfl⟩ := hl b cs (by simp)
    simp only [ownR, List.mem_append] at h
    rcases h with h | h
    · exact ownA_f k fs ob h
    · exact ownR_f r _ (fun b cs hm => hl b cs (by simp [hm])) ob h
theorem ownA_row (k : Nat) : ∀ (fs : List FV) (y : AV), y ∈ (ownA k (fs.map .fz)).1 → (∃ v, y = .fz v) ∨ ∃ sz o, y = .ofl sz o := by
  intro fs
  induction fs generalizing k with
  | nil => intro ob h; cases h
  | cons v fs ih =>
    intro y h
    cases v with
    | sl sz es =>
      simp only [List.map_cons, ownA] at h
      cases h with
      | head => exact .inr ⟨_, _, rfl⟩
      | tail _ h => exact ih _ y h
    | _ =>
      simp only [List.map_cons, ownA] at h
      cases h with
      | head => exact .inl ⟨_, rfl⟩
      | tail _ h => exact ih _ y h
theorem ownR_row : ∀ (l : List (Bool × List AV)) (k : Nat), allFz l → ∀ (b : Bool) (cs : List AV), (b, cs) ∈ (ownR k l).1 → ∀ y ∈ cs, (∃ v, y = .fz v) ∨ ∃ sz o, y = .ofl sz o
  | [], k, _, b, cs, h => by cases h
  | (b, cs) :: r, k, hl, b', cs', h => by
    obtain ⟨fs, rfl⟩ := hl b cs (by simp)
    simp only [ownR] at h
    cases h with
    | head => exact ownA_row k fs
    | tail _ h => exact ownR_row r _ (fun b cs hm => hl b cs (by simp [hm])) b' cs' h
theorem putOs_append (n : Nat) : ∀ (hr : List Ob) (k : Nat) (h : List Ob), h.length = n + k → putOs h ((hr.zipIdx k).map fun (ob, j) => (n + j, ob)) = h ++ hr
  | [], k, h, _ => by simp [putOs]
  | ob :: hr, k, h, hl => by
    simp only [List.zipIdx_cons, List.map_cons, putOs]
    have : putO h (n + k) ob = h ++ [ob] := by simp [putO, hl]
    rw [this, putOs_append n hr (k + 1) (h ++ [ob]) (by simp [hl]; omega)]
    simp
theorem putOs_app (h : List Ob) : ∀ (a b : List (Nat × Ob)), putOs h (a ++ b) = putOs (putOs h a) b
  | [], b => rfl
  | (o, ob) :: a, b => putOs_app (putO h o ob) a b
section
variable {P : Program} {ext : Nat → Prop} {w0 : World} {own0 : Own0} {locs locs' : Nat → Option Loc} {h hr : List Ob} {w w' : World}
theorem RepH.join (H : RepH P ext w0 own0 locs h w) (H' : RepH P (Bar ext locs h) w ⟨fun _ => False, fun _ => none, []⟩ locs' hr w') (hf : ∀ ob ∈ hr, ∃ et sz es, ob = .f et sz es) :
    RepH P ext w0 own0 (fun o => if o < h.length then locs o else locs' (o - h.length)) (h ++ hr) w' ∧
      Later w (Bar ext locs h) w' (Bar ext (fun o => if o < h.length then locs o else locs' (o - h.length)) (h ++ hr)) ∧
      ∀ b, Bar ext (fun o => if o < h.length then locs o else locs' (o - h.length)) (h ++ hr) b → Bar (Bar ext locs h) locs' hr b := by
  have hown : ∀ b, ownB (fun o => if o < h.length then locs o else locs' (o - h.length)) (h ++ hr) b → ownB locs h b ∨ ownB locs' hr b := by
    rintro b ⟨o, l, d, ob, h1, h2, h3, h4, rfl⟩
    by_cases ho : o < h.length
    · rw [List.getElem?_append_left ho] at h1
      simp only [if_pos ho] at h3
      exact .inl ⟨o, l, d, ob, h1, h2, h3, h4, rfl⟩
    · rw [List.getElem?_append_right (by omega)] at h1
      simp only [if_neg ho] at h3
      exact .inr ⟨o - h.length, l, d, ob, h1, h2, h3, h4, rfl⟩
  have hbar : ∀ b, Bar ext (fun o => if o < h.length then locs o else locs' (o - h.length)) (h ++ hr) b → Bar (Bar ext locs h) locs' hr b := by
    rintro b (hb | hb)
    · exact .inl (.inl hb)
    · rcases hown b hb with hb | hb
      · exact .inl (.inr hb)
      · exact .inr hb
  have st := H.step (w' := w') (locs' := fun o => if o < h.length then locs o else locs' (o - h.length)) (h' := h ++ hr) (fun o => h.length ≤ o) (fun _ => False) (fun b hb _ => H'.since.block b hb (fun h => h)) H'.since.size H'.since.os H'.since.tape H'.since.output (fun _ _ hd => hd.elim)
    (fun o x hx => by
      have : o < h.length := by
        rcases Nat.lt_or_ge o h.length with h' | h'
        · exact h'
        · rw [H.len o h'] at hx; cases hx
      simp only [if_pos this]; exact hx)
    (fun o ho => by
      simp only [List.length_append] at ho
      simp only [if_neg (show ¬ o < h.length by omega)]
      exact H'.len _ (by omega))
    (fun o ob hc ho => by
      have hlt : o < h.length := by omega
      rw [List.getElem?_append_left hlt] at ho
      exact ⟨ho, by simp only [if_pos hlt]⟩)
    (fun _ _ _ _ _ _ _ _ _ hd => hd)
    (fun b hb ho => (hown b ho).elim id (fun ho => (H'.ownOld b hb ho).elim))
    (fun o o' l l' ob ob' d d' hc hne ho ho' hlv hlv' hl hl' hd hd' => by
      have hlt : ¬ o < h.length := by omega
      rw [List.getElem?_append_right hc] at ho
      simp only [if_neg hlt] at hl
      have h1 : ownB locs' hr d.block := ⟨o - h.length, l, d, ob, ho, hlv, hl, hd, rfl⟩
      by_cases ho2 : o' < h.length
      · rw [List.getElem?_append_left ho2] at ho'
        simp only [if_pos ho2] at hl'
        have h2 : ownB locs h d'.block := ⟨o', l', d', ob', ho', hlv', hl', hd', rfl⟩
        intro e
        rw [e] at h1
        exact H'.ownOld _ (H.own_lt h2) h1
      · rw [List.getElem?_append_right (by omega)] at ho'
        simp only [if_neg ho2] at hl'
        exact H'.apart _ _ l l' ob ob' d d' (by omega) ho ho' hlv hlv' hl hl' hd hd')
    (fun lt o ob hc ho => by
      rw [List.getElem?_append_right hc] at ho
      obtain ⟨et, sz, es, rfl⟩ := hf ob (List.mem_of_getElem? ho)
      obtain ⟨l, hl, hob⟩ := H'.get ho (by simp) (by simp)
      refine .inr (.inr ⟨l, by simp only [if_neg (show ¬ o < h.length by omega)]; exact hl, ?_⟩)
      have := hob.later (w' := w') (B' := Bar ext (fun o => if o < h.length then locs o else locs' (o - h.length)) (h ++ hr)) (locs' := locs') ⟨fun _ _ _ => rfl, fun b _ hb => hbar b hb⟩ (fun _ _ h => h) (fun _ _ _ => rfl)
      exact this)
  exact ⟨st.1, st.2, hbar⟩
end
end Go.Proofs.YtejefchehdifhaaGreatDoor.Ev
end
section
set_option linter.unusedVariables false
set_option linter.unusedSimpArgs false
namespace Go.Proofs.YtejefchehdifhaaGreatDoor.Ev
open Go
def OpSeq (P : Program) (o : Oper) (t : List TV) (h : List Ob) (v : TV) (wr : List (Nat × Ob)) : Prop :=
  ∀ (ext : Nat → Prop) (w0 : World) (own0 : Own0) (a : Act) (w : World) (Q : Exit → Act → World → Prop), Rep P ext w0 own0 ⟨t, h⟩ a w →
    o.wp P a w (fun a' w' => Rep P ext w0 own0 ⟨putT t o.dst v, putOs h wr⟩ a' w') Q
theorem OpOK.seq {P : Program} {o : Oper} {t : List TV} {h : List Ob} {v : TV} {wr : List (Nat × Ob)} {rd : List Nat} (hk : OpOK P o t h h.length v wr rd) : OpSeq P o t h v wr :=
  fun ext w0 own0 a w Q R => hk ext w0 own0 t h a w Q rfl (fun _ _ => rfl) (fun _ _ => rfl) (.inl rfl) R
def capT : Bool × List FV → TV
  | (true, l) => .agg (l.map .fz)
  | (false, [v]) => .one (.fz v)
  | _ => .und
def evCall (P : Program) (M : Mode) (dr : Bool) (fo : Operand) (args : List Operand) (t : List TV) (h : List Ob) (id : Nat) (K : OpK) : Prop :=
  match ev t fo with
  | .one (.fz (.fn g caps)) => evCallF P M dr g (args.map (ev t) ++ caps.map capT) h id K
  | _ => False
theorem capT_ok {w : World} {B : Nat → Prop} {locs : Nat → Option Loc} {b : Bool} {l : List FV} {vs : List Value} (hl : vs.length = l.length) (hr : ∀ (j : Nat) (x : FV) (v : Value), l[j]? = some x → vs[j]? = some v → RF w B x v) : RT w B locs (capT (b, l)) (mkV b vs) := by
  cases b with
  | true =>
    refine ⟨vs, rfl, by simp [hl], by simp, fun j x hx => ?_⟩
    obtain ⟨y, hy, rfl⟩ := map_fz hx
    have hj : j < vs.length := by
      rw [hl]
      rcases Nat.lt_or_ge j l.length with h' | h'
      · exact h'
      · rw [List.getElem?_eq_none h'] at hy; cases hy
    exact ⟨vs[j], List.getElem?_eq_getElem _, hr j y _ hy (List.getElem?_eq_getElem _)⟩
  | false =>
    match l, vs, hl, hr with
    | [], _, _, _ => trivial
    | [v], [u], _, hr => exact hr 0 v u rfl rfl
    | _ :: _ :: _, _, _, _ => trivial
theorem run_callFunc {P : Program} {g : FuncId} {fn : Func} (hf : P.funcs[g]? = some fn) (hb : fn.body.isSome = true) (hn : (fn.name == "runtime.NumGoroutine") = false) (args : Array Value) (w : World) : (callFunc g args).run P w = .ok (.enter g args) w := by
  have hb' : fn.body.isNone = false := by cases h : fn.body <;> simp_all
  unfold callFunc
  rw [Sem.run_bind]
  show Sem.run P (match P.funcs[g]? with | none => _ | some fn => _) w = _
  rw [hf]
  simp only [hn, Bool.false_eq_true, if_false, hb']
  rfl
theorem wp_enter {P : Program} {o : Oper} {a : Act} {w : World} {g : FuncId} {vals : Array Value} {K : Act → World → Prop} {Q : Exit → Act → World → Prop} (h : (execOp a.eval o).run P w = .ok (.enter g vals) w)
    (hk : Calls P g vals w fun e w' => ∃ v, e = .returned v ∧ K (a.put o.dst v) w') : o.wp P a w K Q := by
  unfold Oper.wp
  rw [h]
  exact hk.mono fun e w' ⟨v, he, hkv⟩ => by subst he; exact hkv
theorem call_vals {P : Program} {o : Oper} {fo : Operand} {args argTypes : _} (hop : o.op = .call { callee := .value fo, args := args, argTypes := argTypes }) {t : List TV} {g : FuncId} {caps : List (Bool × List FV)} {fn : Func}
    (hfo : ev t fo = .one (.fz (.fn g caps))) (hfn : P.funcs[g]? = some fn) (hb : fn.body.isSome = true) (hn : (fn.name == "runtime.NumGoroutine") = false)
    {w : World} {B : Nat → Prop} {locs : Nat → Option Loc} {t' : List TV} {a : Act} (hag : ∀ x ∈ o.op.operands, ev t' x = ev t x) (RTm : RepT w B locs t' a) (ts : List TypeId) :
    ∃ vals : Array Value, (execOp a.eval o).run P w = .ok (.enter g vals) w ∧ vals.size = (argsK P ts (args.toList.map (ev t) ++ caps.map capT)).length ∧
      ∀ (i : Nat) (x : TV), (argsK P ts (args.toList.map (ev t) ++ caps.map capT))[i]? = some x → ∃ v, vals[i]? = some v ∧ RT w B locs x v := by
  have hp := ev_rep RTm fo
  rw [hag fo (by rw [hop]; simp [Op.operands, Call.operands]), hfo] at hp
  generalize hq : a.eval fo = q at hp
  cases hp with
  | fn g caps vs cvs hcn hcv hcr =>
    obtain ⟨h1, h2⟩ := argsK_ok (P := P) (w := w) (B := B) (locs := locs) ts (args.toList.map (ev t) ++ caps.map capT)
    refine ⟨args.map a.eval ++ cvs, ?_, by rw [h1]; simp [hcn], fun i x hx => ?_⟩
    · unfold execOp
      rw [hop]
      simp [resolve, hq, Deferred.ofValue, invoke, run_callFunc hfn hb hn]
    · obtain ⟨y, hy, hxy⟩ := h2 i x hx
      by_cases hi : i < args.size
      · rw [List.getElem?_append_left (by simpa using hi)] at hy
        simp only [List.getElem?_map, Option.map_eq_some_iff] at hy
        obtain ⟨z, hz, rfl⟩ := hy
        have hmem : z ∈ args := by
          have := List.mem_of_getElem? hz
          simpa using this
        have hr := ev_rep RTm z
        rw [hag z (by rw [hop]; simp [Op.operands, Call.operands, hmem])] at hr
        refine ⟨a.eval z, ?_, hxy _ hr⟩
        rw [Array.getElem?_append_left (by simpa using hi)]
        have hz' : args[i]? = some z := by simpa using hz
        simp [hz']
      · rw [List.getElem?_append_right (by simpa using hi)] at hy
        simp only [List.getElem?_map, Option.map_eq_some_iff, List.length_map, Array.length_toList] at hy
        obtain ⟨⟨b, l⟩, hz, rfl⟩ := hy
        obtain ⟨h3, h4⟩ := hcv _ b l hz
        refine ⟨mkV b (vs (i - args.size)), ?_, hxy _ (capT_ok h3 (fun j x v h5 h6 => hcr _ b l j x v hz h5 h6))⟩
        rw [Array.getElem?_append_right (by simp; omega)]
        simpa using h4
theorem kept_rep {w : World} {B : Nat → Prop} {locs locs' locs2 : Nat → Option Loc} {l : List (Bool × List AV)} (hl : allFz l) {v : Value} (h : RT w (Bar B locs' []) locs2 (toTV l) v) : RT w B locs (toTV l) v := by
  have hlt : Later w (Bar B locs' []) w B := ⟨fun _ _ _ => rfl, fun b _ hb => .inl hb⟩
  refine toTV_rep rfl (fun i b cs hi => ⟨cs, hi, rfl, fun v hv => ?_⟩) h
  obtain ⟨fs, rfl⟩ := hl b cs (List.mem_of_getElem? hi)
  obtain ⟨vs, h1, h2, h3, h4⟩ := hv
  refine ⟨vs, h1, h2, h3, fun j x hx => ?_⟩
  obtain ⟨y, hy, rfl⟩ := map_fz hx
  obtain ⟨u, hu, hr⟩ := h4 j _ hx
  exact ⟨u, hu, RF.later hlt hr⟩
theorem call_seq {P : Program} {M : Mode} {o : Oper} {fo : Operand} {args argTypes : _} (hop : o.op = .call { callee := .value fo, args := args, argTypes := argTypes }) {t : List TV} {h : List Ob} {K : OpK}
    (he : evCall P M false fo args.toList t h h.length K) : ∃ v wr rd, K v wr rd ∧ OpSeq P o t h v wr := by
  unfold evCall at he
  split at he
  · rename_i g caps hfo
    unfold evCallF at he
    split at he
    · rename_i fn hfn
      split at he
      · rename_i hc
        obtain ⟨hb, hn⟩ := hc
        split at he
        · rename_i ags rd hfr
          split at he
          ·
            obtain ⟨l, ⟨F, hk⟩, hl⟩ := exRs_fz he
            rw [if_neg (by simp)] at hk
            refine ⟨_, _, _, hk, fun ext w0 own0 a w Q R => ?_⟩
            obtain ⟨locs, H, RTm⟩ := R.repT
            obtain ⟨vals, hrun, hvs, hvr⟩ := call_vals hop hfo hfn hb hn (fun _ _ => rfl) RTm fn.params.toList
            obtain ⟨H1, lt1, hlen1, _⟩ := zs_ok rd H
            refine wp_enter hrun ((call_core H hfr F hvs hvr).mono fun e w' ⟨v, locs', he, H', hRT⟩ => ⟨v, he, ?_⟩)
            obtain ⟨H3, lt3, hbar⟩ := RepH.join H1 H' (ownR_f l 0 hl)
            have hput : putOs h (zs h rd ++ (ownR 0 l).2.zipIdx.map fun (ob, j) => (h.length + j, ob)) = putOs h (zs h rd) ++ (ownR 0 l).2 := by
              rw [putOs_app, ← hlen1, putOs_append _ _ 0 _ rfl]
            rw [hput]
            refine Rep.mkput R RTm H3 (lt1.trans lt3 (Nat.le_refl _)) (fun o x hx => ?_) o.dst _ v ?_
            · have hlt : o < h.length := by
                rcases Nat.lt_or_ge o h.length with h' | h'
                · exact h'
                · rw [H.len o h'] at hx; cases hx
              simp only [hlen1, if_pos hlt]; exact hx
            · obtain ⟨h5, h6⟩ := ownR_sh h.length l 0 hl
              rw [Nat.add_zero] at h5
              rw [h5]
              refine toTV_rep (by simp) (fun i b cs hi => ⟨cs.map (AV.sh h.length), by simp [hi], by simp, fun v hv => ?_⟩) hRT
              obtain ⟨vs, h7, h8, h9, h10⟩ := hv
              refine ⟨vs, h7, by simp [h8], h9, fun j x hx => ?_⟩
              simp only [List.getElem?_map, Option.map_eq_some_iff] at hx
              obtain ⟨y, hy, rfl⟩ := hx
              obtain ⟨u, hu, hr⟩ := h10 j y hy
              refine ⟨u, hu, ?_⟩
              have hr2 : RA w' (Bar ext (fun o => if o < (putOs h (zs h rd)).length then locs o else locs' (o - (putOs h (zs h rd)).length)) (putOs h (zs h rd) ++ (ownR 0 l).2)) locs' y u :=
                hr.later ⟨fun _ _ _ => rfl, fun b _ hb => hbar b hb⟩ (fun _ _ h => h)
              cases y with
              | ofl sz q =>
                obtain ⟨lc, a1, c, g1, g2⟩ := hr2
                exact ⟨lc, a1, c, by simp only [hlen1, if_neg (show ¬ h.length + q < h.length by omega), show h.length + q - h.length = q by omega]; exact g1, g2⟩
              | ptr q e c ty =>
                rcases ownR_row l 0 hl b cs (List.mem_of_getElem? hi) _ (List.mem_of_getElem? hy) with ⟨v, h⟩ | ⟨sz, o, h⟩ <;> cases h
              | _ => exact hr2
          · split at he
            · rename_i hbare
              obtain ⟨l, ⟨F, hk⟩, hl⟩ := exRs_bare hbare he
              refine ⟨_, _, _, hk, fun ext w0 own0 a w Q R => ?_⟩
              obtain ⟨locs, H, RTm⟩ := R.repT
              obtain ⟨vals, hrun, hvs, hvr⟩ := call_vals hop hfo hfn hb hn (fun _ _ => rfl) RTm fn.params.toList
              refine wp_enter hrun ((call_core H hfr F hvs hvr).mono fun e w' ⟨v, locs', he, H', hRT⟩ => ⟨v, he, ?_⟩)
              obtain ⟨H3, lt3⟩ := H.grow (w' := w') (fun b hb => H'.since.block b hb (fun h => h)) H'.since.size H'.since.os H'.since.tape H'.since.output
              exact Rep.mkput R RTm H3 lt3 (fun _ _ h => h) o.dst _ v (toTV_rep rfl (fun i b cs hi => ⟨cs, hi, rfl, fun v hv => by
                obtain ⟨fs, rfl, hfs⟩ := hl b cs (List.mem_of_getElem? hi)
                exact RC.bare hfs hv⟩) hRT)
            · obtain ⟨l, ⟨F, hk⟩, hl⟩ := exRs_fz he
              refine ⟨_, _, _, hk, fun ext w0 own0 a w Q R => ?_⟩
              obtain ⟨locs, H, RTm⟩ := R.repT
              obtain ⟨vals, hrun, hvs, hvr⟩ := call_vals hop hfo hfn hb hn (fun _ _ => rfl) RTm fn.params.toList
              refine wp_enter hrun ((call_core H hfr F hvs hvr).mono fun e w' ⟨v, locs', he, H', hRT⟩ => ⟨v, he, ?_⟩)
              obtain ⟨H1, lt1, hlen1, _⟩ := zs_ok rd H
              obtain ⟨H3, lt3⟩ := H1.grow (w' := w') (fun b hb => H'.since.block b hb (fun h => h)) H'.since.size H'.since.os H'.since.tape H'.since.output
              exact Rep.mkput R RTm H3 (lt1.trans lt3 (Nat.le_refl _)) (fun _ _ h => h) o.dst _ v (kept_rep hl hRT)
        · exact he.elim
      · exact he.elim
    · exact he.elim
  · exact he.elim
theorem call_ok {P : Program} {M : Mode} {o : Oper} {fo : Operand} {args argTypes : _} (hop : o.op = .call { callee := .value fo, args := args, argTypes := argTypes }) {t : List TV} {h : List Ob} {id : Nat} {K : OpK}
    (he : evCall P M true fo args.toList t h id K) : ∃ v wr rd, K v wr rd ∧ OpOK P o t h id v wr rd := by
  unfold evCall at he
  split at he
  · rename_i g caps hfo
    unfold evCallF at he
    split at he
    · rename_i fn hfn
      split at he
      · rename_i hc
        obtain ⟨hb, hn⟩ := hc
        split at he
        · rename_i ags rd hfr
          split at he
          ·
            obtain ⟨l, ⟨F, hk⟩, hl⟩ := exRs_fz he
            split at hk
            · exact hk.elim
            rename_i hle
            have hle : (ownR 0 l).2.length ≤ 1 := by
              rcases Nat.lt_or_ge 1 (ownR 0 l).2.length with h' | h'
              · exact absurd ⟨rfl, h'⟩ hle
              · exact h'
            refine ⟨_, _, _, hk, fun ext w0 own0 t' h' a w Q hlen hag hrd hf R => ?_⟩
            obtain ⟨locs, H, RTm⟩ := R.repT
            obtain ⟨vals, hrun, hvs, hvr⟩ := call_vals hop hfo hfn hb hn hag RTm fn.params.toList
            obtain ⟨H1, lt1, hlen1, hz1⟩ := zs_ok rd H
            have hfr' := frzTOs_congr hfr hrd
            rw [← zs_congr rd hrd]
            refine wp_enter hrun ((call_core H hfr' F hvs hvr).mono fun e w' ⟨v, locs', he, H', hRT⟩ => ⟨v, he, ?_⟩)
            have hrf := ownR_f l 0 hl
            have hrow := ownR_row l 0 hl
            obtain ⟨h5, h6⟩ := ownR_sh id l 0 hl
            rw [Nat.add_zero] at h5
            rw [h5]
            generalize (ownR 0 l).1 = cells at hRT hrow
            generalize (ownR 0 l).2 = hr at H' hRT hrf hle
            have hcase : hr = [] ∨ ∃ et sz es, hr = [.f et sz es] := by
              match hr, hle, hrf with
              | [], _, _ => exact .inl rfl
              | [ob], _, hrf => obtain ⟨et, sz, es, rfl⟩ := hrf ob (by simp); exact .inr ⟨et, sz, es, rfl⟩
            rcases hcase with rfl | ⟨et, sz, es, rfl⟩
            · obtain ⟨H3, lt3⟩ := H1.grow (w' := w') (fun b hb => H'.since.block b hb (fun h => h)) H'.since.size H'.since.os H'.since.tape H'.since.output
              rw [show putOs h' (zs h' rd ++ ([] : List Ob).zipIdx.map fun (ob, j) => (id + j, ob)) = putOs h' (zs h' rd) from by simp]
              refine Rep.mkput R RTm H3 (lt1.trans lt3 (Nat.le_refl _)) (fun _ _ h => h) o.dst _ v ?_
              refine toTV_rep (by simp) (fun i b cs hi => ⟨cs.map (AV.sh id), by simp [hi], by simp, fun v hv => ?_⟩) hRT
              obtain ⟨vs, h7, h8, h9, h10⟩ := hv
              refine ⟨vs, h7, by simp [h8], h9, fun j x hx => ?_⟩
              simp only [List.getElem?_map, Option.map_eq_some_iff] at hx
              obtain ⟨y, hy, rfl⟩ := hx
              obtain ⟨u, hu, hr⟩ := h10 j y hy
              refine ⟨u, hu, ?_⟩
              rcases hrow b cs (List.mem_of_getElem? hi) y (List.mem_of_getElem? hy) with ⟨z, rfl⟩ | ⟨sz, q, rfl⟩
              · exact RF.later ⟨fun _ _ _ => rfl, fun b _ hb => .inl hb⟩ hr
              · obtain ⟨lc, a1, c, g1, _⟩ := hr
                rw [H'.len q (by simp)] at g1
                cases g1
            · have hf1 : freshO (putOs h' (zs h' rd)) id := by
                rcases hf with rfl | hf
                · exact .inl hlen1.symm
                · right
                  have : ∀ (rd : List Nat) {h : List Ob}, h[id]? = some .rs → (putOs h (zs h rd))[id]? = some .rs := by
                    intro rd
                    induction rd with
                    | nil => intro h hh; exact hh
                    | cons o r ih =>
                      intro h hh
                      unfold zs
                      split
                      · rename_i et sz' es' hg
                        have ho : h[o]? = some (.f et sz' es') := getO_some hg (by simp)
                        simp only [putOs, putO_lt ho]
                        refine ih ?_
                        rw [set_get ho, if_neg (by rintro rfl; rw [ho] at hh; cases hh)]
                        exact hh
                      · exact ih hh
                  exact this rd hf
              obtain ⟨lc, hlc, hob⟩ := H'.get (o := 0) (ob := .f et sz es) rfl (by simp) (by simp)
              have hblk : ∀ d, lc.a = some d → w.heap.size ≤ d.block := by
                intro d hd
                rcases Nat.lt_or_ge d.block w.heap.size with h' | h'
                · exact (H'.ownOld d.block h' ⟨0, lc, d, .f et sz es, rfl, rfl, hlc, hd, rfl⟩).elim
                · exact h'
              have hbar : ∀ b, Bar ext (addL locs id lc) (putO (putOs h' (zs h' rd)) id (.f et sz es)) b → Bar (Bar ext locs (putOs h' (zs h' rd))) locs' [.f et sz es] b := by
                rintro b (hb | ⟨q, l1, d1, ob1, g1, g2, g3, g4, rfl⟩)
                · exact .inl (.inl hb)
                · obtain ⟨hn1, hle1⟩ := fresh_none H1 hf1
                  rw [putO_get hle1] at g1
                  unfold addL at g3
                  by_cases e : q = id
                  · rw [if_pos e] at g1 g3
                    cases g1; cases g3
                    exact .inr ⟨0, lc, d1, .f et sz es, rfl, rfl, hlc, g4, rfl⟩
                  · rw [if_neg e] at g1 g3
                    exact .inl (.inr ⟨q, l1, d1, ob1, g1, g2, g3, g4, rfl⟩)
              obtain ⟨H3, lt3⟩ := H1.new (w' := w') hf1 (fun b hb => H'.since.block b hb (fun h => h)) H'.since.size H'.since.os H'.since.tape H'.since.output lc (.f et sz es) (fun _ d hd => hblk d hd)
                (fun _ => hob.later (w' := w') (locs' := locs') ⟨fun _ _ _ => rfl, fun b _ hb => hbar b hb⟩ (fun _ _ h => h) (fun _ _ _ => rfl))
              rw [show putOs h' (zs h' rd ++ ([.f et sz es] : List Ob).zipIdx.map fun (ob, j) => (id + j, ob)) = putO (putOs h' (zs h' rd)) id (.f et sz es) from by simp [putOs_app, putOs]]
              have hn1 := (fresh_none H1 hf1).1
              refine Rep.mkput R RTm H3 (lt1.trans lt3 (Nat.le_refl _)) (addL_mono hn1) o.dst _ v ?_
              refine toTV_rep (by simp) (fun i b cs hi => ⟨cs.map (AV.sh id), by simp [hi], by simp, fun v hv => ?_⟩) hRT
              obtain ⟨vs, h7, h8, h9, h10⟩ := hv
              refine ⟨vs, h7, by simp [h8], h9, fun j x hx => ?_⟩
              simp only [List.getElem?_map, Option.map_eq_some_iff] at hx
              obtain ⟨y, hy, rfl⟩ := hx
              obtain ⟨u, hu, hr⟩ := h10 j y hy
              refine ⟨u, hu, ?_⟩
              rcases hrow b cs (List.mem_of_getElem? hi) y (List.mem_of_getElem? hy) with ⟨z, rfl⟩ | ⟨sz', q, rfl⟩
              · exact RF.later ⟨fun _ _ _ => rfl, fun b _ hb => hbar b hb⟩ hr
              · obtain ⟨l2, a1, c, g1, g2⟩ := hr
                have hq : q = 0 := by
                  rcases Nat.eq_zero_or_pos q with h' | h'
                  · exact h'
                  · rw [H'.len q (by simp; omega)] at g1; cases g1
                subst hq
                rw [hlc] at g1
                cases g1
                exact ⟨lc, a1, c, by unfold addL; rw [if_pos (by omega)], g2⟩
          · split at he
            · rename_i hbare
              obtain ⟨l, ⟨F, hk⟩, hl⟩ := exRs_bare hbare he
              refine ⟨_, _, _, hk, fun ext w0 own0 t' h' a w Q hlen hag hrd hf R => ?_⟩
              obtain ⟨locs, H, RTm⟩ := R.repT
              obtain ⟨vals, hrun, hvs, hvr⟩ := call_vals hop hfo hfn hb hn hag RTm fn.params.toList
              refine wp_enter hrun ((call_core H (frzTOs_congr hfr hrd) F hvs hvr).mono fun e w' ⟨v, locs', he, H', hRT⟩ => ⟨v, he, ?_⟩)
              obtain ⟨H3, lt3⟩ := H.grow (w' := w') (fun b hb => H'.since.block b hb (fun h => h)) H'.since.size H'.since.os H'.since.tape H'.since.output
              exact Rep.mkput R RTm H3 lt3 (fun _ _ h => h) o.dst _ v (toTV_rep rfl (fun i b cs hi => ⟨cs, hi, rfl, fun v hv => by
                obtain ⟨fs, rfl, hfs⟩ := hl b cs (List.mem_of_getElem? hi)
                exact RC.bare hfs hv⟩) hRT)
            · obtain ⟨l, ⟨F, hk⟩, hl⟩ := exRs_fz he
              refine ⟨_, _, _, hk, fun ext w0 own0 t' h' a w Q hlen hag hrd hf R => ?_⟩
              obtain ⟨locs, H, RTm⟩ := R.repT
              obtain ⟨vals, hrun, hvs, hvr⟩ := call_vals hop hfo hfn hb hn hag RTm fn.params.toList
              rw [← zs_congr rd hrd]
              refine wp_enter hrun ((call_core H (frzTOs_congr hfr hrd) F hvs hvr).mono fun e w' ⟨v, locs', he, H', hRT⟩ => ⟨v, he, ?_⟩)
              obtain ⟨H1, lt1, hlen1, _⟩ := zs_ok rd H
              obtain ⟨H3, lt3⟩ := H1.grow (w' := w') (fun b hb => H'.since.block b hb (fun h => h)) H'.since.size H'.since.os H'.since.tape H'.since.output
              exact Rep.mkput R RTm H3 (lt1.trans lt3 (Nat.le_refl _)) (fun _ _ h => h) o.dst _ v (kept_rep hl hRT)
        · exact he.elim
      · exact he.elim
    · exact he.elim
  · exact he.elim
end Go.Proofs.YtejefchehdifhaaGreatDoor.Ev
end
section
set_option linter.unusedVariables false
set_option linter.unusedSimpArgs false
namespace Go.Proofs.YtejefchehdifhaaGreatDoor.Ev
open Go
def idxO (ids : List Nat) (o : Nat) : Option Nat := go ids 0
where
  go : List Nat → Nat → Option Nat
  | [], _ => none
  | x :: r, k => if x = o then some k else go r (k + 1)
theorem idxO_go (o : Nat) : ∀ (ids : List Nat) (k n : Nat), idxO.go o ids k = some n → k ≤ n ∧ ids[n - k]? = some o
  | [], k, n, h => by cases h
  | x :: r, k, n, h => by
    unfold idxO.go at h
    split at h
    · cases h; subst_vars; simp
    · obtain ⟨h1, h2⟩ := idxO_go o r (k + 1) n h
      refine ⟨by omega, ?_⟩
      rw [show n - k = (n - (k + 1)) + 1 by omega]
      exact h2
theorem idxO_some {ids : List Nat} {o n : Nat} (h : idxO ids o = some n) : ids[n]? = some o := by
  have := (idxO_go o ids 0 n h).2
  simpa using this
def reA (ids : List Nat) : AV → AV
  | .ofl sz o => match idxO ids o with
    | some k => .ofl sz k
    | none => .und
  | .ptr o e c ty => match idxO ids o with
    | some k => .ptr k e c ty
    | none => .und
  | .kb b => .fz (.bool b)
  | a => a
def reT (ids : List Nat) : TV → TV
  | .one a => .one (reA ids a)
  | .agg cs => .agg (cs.map (reA ids))
  | .tup ts => .tup (ts.map fun p => (p.1, p.2.map (reA ids)))
  | .und => .und
def reO (ids : List Nat) : Ob → Ob
  | .g gt cs => .g gt (cs.map (reA ids))
  | .rs => .no
  | ob => ob
def reLocs (locs : Nat → Option Loc) (ids : List Nat) (k : Nat) : Option Loc :=
  match ids[k]? with
  | some o => locs o
  | none => none
section
variable {P : Program} {ext : Nat → Prop} {w0 : World} {own0 : Own0} {locs : Nat → Option Loc} {h : List Ob} {w : World}
theorem reA_ok {B : Nat → Prop} {ids : List Nat} {a : AV} {v : Value} (hr : RA w B locs a v) : RA w B (reLocs locs ids) (reA ids a) v := by
  cases a with
  | ofl sz o =>
    obtain ⟨l, a, c, h1, h2⟩ := hr
    simp only [reA]
    cases hi : idxO ids o with
    | none => trivial
    | some k => exact ⟨l, a, c, by simp only [reLocs, idxO_some hi]; exact h1, h2⟩
  | ptr o e c ty =>
    obtain ⟨l, d, h1, h2⟩ := hr
    simp only [reA]
    cases hi : idxO ids o with
    | none => trivial
    | some k => exact ⟨l, d, by simp only [reLocs, idxO_some hi]; exact h1, h2⟩
  | kb b => cases hr; exact RF.bool b
  | _ => exact hr
theorem reC_ok {B : Nat → Prop} {ids : List Nat} {b : Bool} {cs : List AV} {v : Value} (hr : RC w B locs b cs v) : RC w B (reLocs locs ids) b (cs.map (reA ids)) v := by
  obtain ⟨vs, h1, h2, h3, h4⟩ := hr
  refine ⟨vs, h1, by simp [h2], h3, fun j x hx => ?_⟩
  simp only [List.getElem?_map, Option.map_eq_some_iff] at hx
  obtain ⟨y, hy, rfl⟩ := hx
  obtain ⟨u, hu, hra⟩ := h4 j y hy
  exact ⟨u, hu, reA_ok hra⟩
theorem reT_ok {B : Nat → Prop} {ids : List Nat} {t : TV} {v : Value} (hr : RT w B locs t v) : RT w B (reLocs locs ids) (reT ids t) v := by
  cases t with
  | one a => exact reA_ok hr
  | agg cs => exact reC_ok hr
  | tup ts =>
    obtain ⟨vs, h1, h2, h3⟩ := hr
    refine ⟨vs, h1, by simp [h2], fun i b cs hi => ?_⟩
    simp only [List.getElem?_map, Option.map_eq_some_iff] at hi
    obtain ⟨⟨b', cs'⟩, hq, he⟩ := hi
    cases he
    obtain ⟨u, hu, hra⟩ := h3 i _ _ hq
    exact ⟨u, hu, reC_ok hra⟩
  | und => trivial
theorem reH_gen (H : RepH P ext w0 own0 locs h w) {ids : List Nat} (hn : ids.Nodup) {ext' : Nat → Prop} {w0' : World} {own0' : Own0} (hx1 : ∀ b, ext' b → Bar ext locs h b)
    (hx2 : ∀ b, ext' b → ¬ ownB (reLocs locs ids) (ids.map fun o => reO ids (getO h o)) b) (hx3 : ∀ b, b < w0'.heap.size → ownB (reLocs locs ids) (ids.map fun o => reO ids (getO h o)) b → own0'.b b) (hs : Since w0' own0'.b w) (hb : Base P ext' w0' own0'.b)
    (hp : ∀ (o : Nat) (x : Loc), own0'.pin o = some x → reLocs locs ids o = some x) : RepH P ext' w0' own0' (reLocs locs ids) (ids.map fun o => reO ids (getO h o)) w ∧
    Later w (Bar ext locs h) w (Bar ext' (reLocs locs ids) (ids.map fun o => reO ids (getO h o))) ∧ (∀ b, ownB (reLocs locs ids) (ids.map fun o => reO ids (getO h o)) b → ownB locs h b) ∧
    (∀ (k : Nat) (ob : Ob), (ids.map fun o => reO ids (getO h o))[k]? = some ob → ob.live = true → ∃ o ob0, ids[k]? = some o ∧ h[o]? = some ob0 ∧ ob0.live = true ∧ reLocs locs ids k = locs o) := by
  have hget : ∀ (k : Nat) (ob : Ob), (ids.map fun o => reO ids (getO h o))[k]? = some ob → ∃ o, ids[k]? = some o ∧ ob = reO ids (getO h o) := by
    intro k ob hk
    simp only [List.getElem?_map, Option.map_eq_some_iff] at hk
    obtain ⟨o, h1, h2⟩ := hk
    exact ⟨o, h1, h2.symm⟩
  have hlive : ∀ (k : Nat) (ob : Ob), (ids.map fun o => reO ids (getO h o))[k]? = some ob → ob.live = true → ∃ o ob0, ids[k]? = some o ∧ h[o]? = some ob0 ∧ ob0.live = true ∧ reLocs locs ids k = locs o := by
    intro k ob hk hlv
    obtain ⟨o, h1, h2⟩ := hget k ob hk
    have hl : (getO h o).live = true := by
      rw [h2] at hlv
      cases hq : getO h o <;> rw [hq] at hlv <;> first | rfl | cases hlv
    exact ⟨o, getO h o, h1, getO_some rfl (by rintro e; rw [e] at hl; cases hl), hl, by simp [reLocs, h1]⟩
  have hown : ∀ b, ownB (reLocs locs ids) (ids.map fun o => reO ids (getO h o)) b → ownB locs h b := by
    rintro b ⟨k, l, d, ob, h1, h2, h3, h4, rfl⟩
    obtain ⟨o, ob0, h5, h6, h7, h8⟩ := hlive k ob h1 h2
    exact ⟨o, l, d, ob0, h6, h7, by rw [← h8]; exact h3, h4, rfl⟩
  have lt : Later w (Bar ext locs h) w (Bar ext' (reLocs locs ids) (ids.map fun o => reO ids (getO h o))) := ⟨fun _ _ _ => rfl, fun b _ hb => hb.elim (hx1 b) (fun hb => .inr (hown b hb))⟩
  refine ⟨⟨fun o ho => ?_, fun k ob hk => ?_, fun o o' l l' ob ob' d d' hne ho ho' hlv hlv' hl hl' hd hd' => ?_, hx2, fun b hb => (hx1 b hb).elim (H.extlt b) (fun hb => H.own_lt hb), hx3, hs, hb, hp⟩, lt, hown, hlive⟩
  · simp only [List.length_map] at ho
    simp only [reLocs, List.getElem?_eq_none ho]
  · obtain ⟨o, h1, h2⟩ := hget k ob hk
    by_cases hno : getO h o = .no
    · rw [hno] at h2; exact .inl h2
    · have ho := getO_some (h := h) (o := o) rfl hno
      rcases H.ob o _ ho with h3 | ⟨h3, _⟩ | ⟨l, h3, h4⟩
      · exact absurd h3 hno
      · rw [h3] at h2; exact .inl h2
      · refine .inr (.inr ⟨l, by simp only [reLocs, h1]; exact h3, ?_⟩)
        have h5 := h4.later lt (locs' := locs) (fun _ _ h => h) (fun _ _ _ => rfl)
        rw [h2]
        cases hq : getO h o with
        | no => trivial
        | rs => rw [hq] at h5; exact h5.elim
        | f et sz es => rw [hq] at h5; exact h5
        | z sz es => rw [hq] at h5; exact h5
        | g gt cs =>
          rw [hq] at h5
          obtain ⟨g1, b, c, g2, g3, g4, g5⟩ := h5
          refine ⟨by simp [g1], b, c, g2, g3, by simp [g4], fun j x hx => ?_⟩
          simp only [List.getElem?_map, Option.map_eq_some_iff] at hx
          obtain ⟨y, hy, rfl⟩ := hx
          obtain ⟨u, hu, hra⟩ := g5 j y hy
          exact ⟨u, hu, reA_ok hra⟩
  · obtain ⟨q, ob0, h1, h2, h3, h4⟩ := hlive o ob ho hlv
    obtain ⟨q', ob0', h1', h2', h3', h4'⟩ := hlive o' ob' ho' hlv'
    refine H.apart q q' l l' ob0 ob0' d d' ?_ h2 h2' h3 h3' (by rw [← h4]; exact hl) (by rw [← h4']; exact hl') hd hd'
    rintro rfl
    have hlt : o < ids.length := by
      rcases Nat.lt_or_ge o ids.length with h' | h'
      · exact h'
      · rw [List.getElem?_eq_none h'] at h1; cases h1
    have hlt' : o' < ids.length := by
      rcases Nat.lt_or_ge o' ids.length with h' | h'
      · exact h'
      · rw [List.getElem?_eq_none h'] at h1'; cases h1'
    rw [List.getElem?_eq_getElem hlt] at h1
    rw [List.getElem?_eq_getElem hlt'] at h1'
    have e1 : ids[o] = q := Option.some.inj h1
    have e2 : ids[o'] = q := Option.some.inj h1'
    exact hne ((List.getElem_inj hn).1 (e1.trans e2.symm))
theorem reH_ok (H : RepH P ext w0 own0 locs h w) {ids : List Nat} (hn : ids.Nodup) (hp : ∀ (o : Nat) (x : Loc), own0.pin o = some x → ids[o]? = some o) : RepH P ext w0 own0 (reLocs locs ids) (ids.map fun o => reO ids (getO h o)) w ∧
    Later w (Bar ext locs h) w (Bar ext (reLocs locs ids) (ids.map fun o => reO ids (getO h o))) := by
  have hown : ∀ b, ownB (reLocs locs ids) (ids.map fun o => reO ids (getO h o)) b → ownB locs h b := by
    rintro b ⟨k, l, d, ob, h1, h2, h3, h4, rfl⟩
    simp only [List.getElem?_map, Option.map_eq_some_iff] at h1
    obtain ⟨o, g1, g2⟩ := h1
    have hl : (getO h o).live = true := by
      rw [← g2] at h2
      cases hq : getO h o <;> rw [hq] at h2 <;> first | rfl | cases h2
    exact ⟨o, l, d, getO h o, getO_some rfl (by rintro e; rw [e] at hl; cases hl), hl, by simpa [reLocs, g1] using h3, h4, rfl⟩
  obtain ⟨h1, h2, _⟩ := reH_gen H hn (ext' := ext) (w0' := w0) (own0' := own0) (fun b hb => .inl hb) (fun b hb ho => H.extOwn b hb (hown b ho)) (fun b hb ho => H.ownOld b hb (hown b ho)) H.since H.base
    (fun o x hx => by simp only [reLocs, hp o x hx]; exact H.pins o x hx)
  exact ⟨h1, h2⟩
end
def idsA : List AV → List Nat → List Nat
  | [], acc => acc
  | .ofl _ o :: r, acc => idsA r (if acc.contains o then acc else acc ++ [o])
  | .ptr o _ _ _ :: r, acc => idsA r (if acc.contains o then acc else acc ++ [o])
  | _ :: r, acc => idsA r acc
def idsP : List (Bool × List AV) → List Nat → List Nat
  | [], acc => acc
  | (_, cs) :: r, acc => idsP r (idsA cs acc)
def idsT : List TV → List Nat → List Nat
  | [], acc => acc
  | .one a :: r, acc => idsT r (idsA [a] acc)
  | .agg cs :: r, acc => idsT r (idsA cs acc)
  | .tup ts :: r, acc => idsT r (idsP ts acc)
  | .und :: r, acc => idsT r acc
def idsH (h : List Ob) : Nat → Nat → List Nat → List Nat
  | 0, _, acc => acc
  | n + 1, k, acc =>
    match acc[k]? with
    | some o => idsH h n (k + 1) (match getO h o with | .g gt cs => idsA cs acc | _ => acc)
    | none => acc
end Go.Proofs.YtejefchehdifhaaGreatDoor.Ev
end
section
set_option linter.unusedVariables false
set_option linter.unusedSimpArgs false
namespace Go.Proofs.YtejefchehdifhaaGreatDoor.Ev
open Go
def bkN (ids : List Nat) (id k : Nat) : Nat :=
  match ids[k]? with
  | some o => o
  | none => id + (k - ids.length)
def bkA (ids : List Nat) (id : Nat) : AV → AV
  | .ofl sz k => .ofl sz (bkN ids id k)
  | .ptr k e c ty => .ptr (bkN ids id k) e c ty
  | a => a
def bkO (ids : List Nat) (id : Nat) : Ob → Ob
  | .g gt cs => .g gt (cs.map (bkA ids id))
  | ob => ob
theorem bkO_live (ids : List Nat) (id : Nat) (ob : Ob) : (bkO ids id ob).live = ob.live := by cases ob <;> rfl
theorem bkA_ok {w : World} {B : Nat → Prop} {locs locs3 : Nat → Option Loc} {ids : List Nat} {id : Nat} (h3 : ∀ (k : Nat) (l : Loc), locs k = some l → locs3 (bkN ids id k) = some l) {a : AV} {v : Value} (h : RA w B locs a v) : RA w B locs3 (bkA ids id a) v := by
  cases a with
  | ofl sz k => obtain ⟨l, a, c, h1, h2⟩ := h; exact ⟨l, a, c, h3 _ _ h1, h2⟩
  | ptr k e c ty => obtain ⟨l, d, h1, h2⟩ := h; exact ⟨l, d, h3 _ _ h1, h2⟩
  | _ => exact h
section
variable {P : Program} {ext : Nat → Prop} {w0 : World} {own0 : Own0} {locs : Nat → Option Loc} {h : List Ob} {w : World}
def locs3 (locs locs' : Nat → Option Loc) (n id m o : Nat) : Option Loc := if id ≤ o ∧ o < id + m then locs' (n + (o - id)) else locs o
theorem share_back (H : RepH P ext w0 own0 locs h w) {ids : List Nat} (hn : ids.Nodup) (hids : ∀ o ∈ ids, ∃ ob, h[o]? = some ob ∧ ob ≠ .no ∧ ob ≠ .rs) {id m : Nat} (hfr : ∀ j, j < m → locs (id + j) = none)
    {ext1 : Nat → Prop} (hext : ∀ b, ext1 b ↔ (Bar ext locs h b ∧ ¬ ownB (reLocs locs ids) (ids.map fun o => reO ids (getO h o)) b))
    {locs' : Nat → Option Loc} {obs : List Ob} {w' : World} (H' : RepH P ext1 w ⟨ownB (reLocs locs ids) (ids.map fun o => reO ids (getO h o)), reLocs locs ids, []⟩ locs' obs w')
    (hown1 : ∀ b, ownB (reLocs locs ids) (ids.map fun o => reO ids (getO h o)) b → ownB locs h b)
    (hlive1 : ∀ (k : Nat) (ob : Ob), (ids.map fun o => reO ids (getO h o))[k]? = some ob → ob.live = true → ∃ o ob0, ids[k]? = some o ∧ h[o]? = some ob0 ∧ ob0.live = true ∧ reLocs locs ids k = locs o)
    (hm : obs.length = ids.length + m) (hrs : ∀ ob ∈ obs, ob ≠ .rs) {h3 : List Ob} (h3len : h.length ≤ h3.length) (h3len2 : ∀ j, j < m → id + j < h3.length)
    (h3get : ∀ (o : Nat) (ob : Ob), h3[o]? = some ob → (∃ k ob0, bkN ids id k = o ∧ obs[k]? = some ob0 ∧ ob = bkO ids id ob0) ∨ (o ∉ ids ∧ ¬ (id ≤ o ∧ o < id + m) ∧ h[o]? = some ob)) :
    RepH P ext w0 own0 (locs3 locs locs' ids.length id m) h3 w' ∧ Later w (Bar ext locs h) w' (Bar ext (locs3 locs locs' ids.length id m) h3) ∧ (∀ (o : Nat) (x : Loc), locs o = some x → locs3 locs locs' ids.length id m o = some x) ∧
      (∀ b, Bar ext (locs3 locs locs' ids.length id m) h3 b → Bar ext1 locs' obs b) ∧ (∀ (k : Nat) (l : Loc), locs' k = some l → locs3 locs locs' ids.length id m (bkN ids id k) = some l) := by
  have hloc : ∀ o ∈ ids, ∃ l, locs o = some l := fun o ho => by
    obtain ⟨ob, h1, h2, h3⟩ := hids o ho
    obtain ⟨l, hl, _⟩ := H.get h1 h2 h3
    exact ⟨l, hl⟩
  have hnin : ∀ o ∈ ids, ¬ (id ≤ o ∧ o < id + m) := fun o ho ⟨h1, h2⟩ => by
    obtain ⟨l, hl⟩ := hloc o ho
    have := hfr (o - id) (by omega)
    rw [show id + (o - id) = o by omega, hl] at this
    cases this
  have hl3 : ∀ (k : Nat) (l : Loc), locs' k = some l → locs3 locs locs' ids.length id m (bkN ids id k) = some l := by
    intro k l hk
    unfold bkN
    cases hi : ids[k]? with
    | some o =>
      have ho : o ∈ ids := List.mem_of_getElem? hi
      obtain ⟨l0, hl0⟩ := hloc o ho
      have h1 := H'.pins k l0 (by show reLocs locs ids k = some l0; simp only [reLocs, hi]; exact hl0)
      rw [hk] at h1; cases h1
      simp only [locs3, if_neg (hnin o ho)]
      exact hl0
    | none =>
      have h1 : ids.length ≤ k := by simpa using hi
      have h2 : k < obs.length := by
        rcases Nat.lt_or_ge k obs.length with h' | h'
        · exact h'
        · rw [H'.len k h'] at hk; cases hk
      simp only [locs3]
      rw [if_pos (by omega), show ids.length + (id + (k - ids.length) - id) = k by omega]
      exact hk
  have hlo : ∀ (o : Nat) (x : Loc), locs o = some x → locs3 locs locs' ids.length id m o = some x := by
    intro o x hx
    unfold locs3
    rw [if_neg]
    · exact hx
    · rintro ⟨h1, h2⟩
      have := hfr (o - id) (by omega)
      rw [show id + (o - id) = o by omega, hx] at this
      cases this
  have hcal : ∀ (k : Nat) (ob0 : Ob) (l : Loc) (d : Addr), obs[k]? = some ob0 → ob0.live = true → locs3 locs locs' ids.length id m (bkN ids id k) = some l → l.a = some d → locs' k = some l ∧ ownB locs' obs d.block := by
    intro k ob0 l d hk hlv hl hd
    rcases H'.ob k ob0 hk with rfl | ⟨rfl, _⟩ | ⟨l1, h1, _⟩
    · cases hlv
    · cases hlv
    · have := hl3 k l1 h1
      rw [hl] at this; cases this
      exact ⟨h1, k, l, d, ob0, hk, hlv, h1, hd, rfl⟩
  have hoth : ∀ (o : Nat) (l : Loc) (ob : Ob) (d : Addr), o ∉ ids → h[o]? = some ob → ob.live = true → locs o = some l → l.a = some d → ¬ ownB (reLocs locs ids) (ids.map fun o => reO ids (getO h o)) d.block := by
    rintro o l ob d hni ho hlv hl hd ⟨k2, l2, d2, ob2, g1, g2, g3, g4, g5⟩
    obtain ⟨o2, ob3, i1, i2, i3, i4⟩ := hlive1 k2 ob2 g1 g2
    refine H.apart o2 o l2 l ob3 ob d2 d ?_ i2 ho i3 hlv (by rw [← i4]; exact g3) hl g4 hd g5
    rintro rfl
    exact hni (List.mem_of_getElem? i1)
  have hlocn : ∀ o, ¬ (id ≤ o ∧ o < id + m) → locs3 locs locs' ids.length id m o = locs o := fun o ho => by unfold locs3; rw [if_neg ho]
  have hbar : ∀ b, Bar ext (locs3 locs locs' ids.length id m) h3 b → Bar ext1 locs' obs b := by
    rintro b (hb | ⟨o, l, d, ob, g1, g2, g3, g4, rfl⟩)
    · exact .inl ((hext b).2 ⟨.inl hb, fun hD => H.extOwn b hb (hown1 b hD)⟩)
    · rcases h3get o ob g1 with ⟨k, ob0, rfl, i2, rfl⟩ | ⟨n1, n2, i2⟩
      · rw [bkO_live] at g2
        exact .inr (hcal k ob0 l d i2 g2 g3 g4).2
      · rw [hlocn o n2] at g3
        exact .inl ((hext _).2 ⟨.inr ⟨o, l, d, ob, i2, g2, g3, g4, rfl⟩, hoth o l ob d n1 i2 g2 g3 g4⟩)
  have hC : ∀ o, o ∈ ids ∨ (id ≤ o ∧ o < id + m) → ∃ k ob0, bkN ids id k = o ∧ obs[k]? = some ob0 := by
    rintro o (ho | ⟨h1, h2⟩)
    · obtain ⟨k, hk⟩ := List.getElem?_of_mem ho
      have hlt : k < ids.length := by
        rcases Nat.lt_or_ge k ids.length with h' | h'
        · exact h'
        · rw [List.getElem?_eq_none h'] at hk; cases hk
      exact ⟨k, obs[k]'(by omega), by simp [bkN, hk], List.getElem?_eq_getElem _⟩
    · refine ⟨ids.length + (o - id), obs[ids.length + (o - id)]'(by omega), ?_, List.getElem?_eq_getElem _⟩
      unfold bkN
      rw [List.getElem?_eq_none (by omega)]
      simp only
      omega
  have st := H.step (w' := w') (locs' := locs3 locs locs' ids.length id m) (h' := h3) (fun o => ∃ k ob0, bkN ids id k = o ∧ obs[k]? = some ob0) (ownB (reLocs locs ids) (ids.map fun o => reO ids (getO h o)))
    (fun b hb hD => H'.since.block b hb hD) H'.since.size H'.since.os H'.since.tape H'.since.output (fun b _ hD => hown1 b hD) hlo
    (fun o ho => by
      rw [hlocn o (fun ⟨h1, h2⟩ => by have := h3len2 (o - id) (by omega); omega)]
      exact H.len o (by omega))
    (fun o ob hc ho => by
      rcases h3get o ob ho with ⟨k, ob0, i1, i2, rfl⟩ | ⟨n1, n2, i2⟩
      · exact absurd ⟨k, ob0, i1, i2⟩ hc
      · exact ⟨i2, hlocn o n2⟩)
    (fun o l ob d hc ho hlv hl hd => hoth o l ob d (fun hm => hc (hC o (.inl hm))) ho hlv hl hd)
    (fun b hb => by
      rintro ⟨o, l, d, ob, g1, g2, g3, g4, rfl⟩
      rcases h3get o ob g1 with ⟨k, ob0, rfl, i2, rfl⟩ | ⟨n1, n2, i2⟩
      · rw [bkO_live] at g2
        exact hown1 _ (H'.ownOld _ hb (hcal k ob0 l d i2 g2 g3 g4).2)
      · rw [hlocn o n2] at g3
        exact ⟨o, l, d, ob, i2, g2, g3, g4, rfl⟩)
    (fun o o' l l' ob ob' d d' hc hne ho ho' hlv hlv' hl hl' hd hd' => by
      rcases h3get o ob ho with ⟨k, ob0, rfl, i2, rfl⟩ | ⟨n1, n2, i2⟩
      · rw [bkO_live] at hlv
        obtain ⟨c1, c2⟩ := hcal k ob0 l d i2 hlv hl hd
        rcases h3get o' ob' ho' with ⟨k', ob0', rfl, i2', rfl⟩ | ⟨n1', n2', i2'⟩
        · rw [bkO_live] at hlv'
          obtain ⟨c1', c2'⟩ := hcal k' ob0' l' d' i2' hlv' hl' hd'
          exact H'.apart k k' l l' ob0 ob0' d d' (fun e => hne (by rw [e])) i2 i2' hlv hlv' c1 c1' hd hd'
        · rw [hlocn o' n2'] at hl'
          intro e
          rw [e] at c2
          exact hoth o' l' ob' d' n1' i2' hlv' hl' hd' (H'.ownOld _ (H.own_lt ⟨o', l', d', ob', i2', hlv', hl', hd', rfl⟩) c2)
      · obtain ⟨k, ob0, rfl, hk⟩ := hc
        exfalso
        unfold bkN at n1 n2
        cases hi : ids[k]? with
        | some q => rw [hi] at n1; exact n1 (List.mem_of_getElem? hi)
        | none =>
          rw [hi] at n2
          have h1 : ids.length ≤ k := by simpa using hi
          have h2 : k < obs.length := by
            rcases Nat.lt_or_ge k obs.length with h' | h'
            · exact h'
            · rw [List.getElem?_eq_none h'] at hk; cases hk
          exact n2 ⟨by simp only; omega, by simp only; omega⟩)
    (fun lt o ob hc ho => by
      rcases h3get o ob ho with ⟨k, ob0, rfl, i2, rfl⟩ | ⟨n1, n2, i2⟩
      · rcases H'.ob k ob0 i2 with rfl | ⟨rfl, _⟩ | ⟨l, hl, hrep⟩
        · exact .inl rfl
        · exact absurd rfl (hrs _ (List.mem_of_getElem? i2))
        · refine .inr (.inr ⟨l, hl3 k l hl, ?_⟩)
          have h5 := hrep.later (w' := w') (B' := Bar ext (locs3 locs locs' ids.length id m) h3) (locs' := locs') ⟨fun _ _ _ => rfl, fun b _ hb => hbar b hb⟩ (fun _ _ h => h) (fun _ _ _ => rfl)
          cases ob0 with
          | no => trivial
          | rs => exact h5.elim
          | f et sz es => exact h5
          | z sz es => exact h5
          | g gt cs =>
            obtain ⟨g1, b, c, g2, g3, g4, g5⟩ := h5
            refine ⟨by simp [g1], b, c, g2, g3, by simp [g4], fun j x hx => ?_⟩
            simp only [List.getElem?_map, Option.map_eq_some_iff] at hx
            obtain ⟨y, hy, rfl⟩ := hx
            obtain ⟨u, hu, hra⟩ := g5 j y hy
            exact ⟨u, hu, bkA_ok hl3 hra⟩
      · obtain ⟨k, ob0, e, hk⟩ := hc
        exfalso
        unfold bkN at e
        cases hi : ids[k]? with
        | some q => rw [hi] at e; simp only at e; subst e; exact n1 (List.mem_of_getElem? hi)
        | none =>
          rw [hi] at e
          simp only at e
          have h1 : ids.length ≤ k := by simpa using hi
          have h2 : k < obs.length := by
            rcases Nat.lt_or_ge k obs.length with h' | h'
            · exact h'
            · rw [List.getElem?_eq_none h'] at hk; cases hk
          exact n2 ⟨by omega, by omega⟩)
  exact ⟨st.1, st.2, hlo, hbar, hl3⟩
end
end Go.Proofs.YtejefchehdifhaaGreatDoor.Ev
end
section
set_option linter.unusedVariables false
set_option linter.unusedSimpArgs false
namespace Go.Proofs.YtejefchehdifhaaGreatDoor.Ev
open Go
def AV.isPtr : AV → Bool
  | .ptr .. => true
  | _ => false
def hasPtr : TV → Bool
  | .one a => a.isPtr
  | .agg cs => cs.any AV.isPtr
  | _ => false
def shareArgs (h : List Ob) : Nat → List TV → Option (List TV × List Nat)
  | _, [] => some ([], [])
  | m, a :: r =>
    match shareArgs h (m / 2) r with
    | some (l, j) =>
      if (Nat.beq (m % 2) 1 || hasPtr a) = true then some (a :: l, j)
      else match frzTO h a with
        | some (v, i) => some (v :: l, i ++ j)
        | none => none
    | none => none
theorem shareArgs_congr {h h' : List Ob} : ∀ {m : Nat} {ts rs : List TV} {i : List Nat}, shareArgs h m ts = some (rs, i) → (∀ k ∈ i, h'[k]? = h[k]?) → shareArgs h' m ts = some (rs, i)
  | m, [], rs, i, hf, hi => hf
  | m, a :: r, rs, i, hf, hi => by
    unfold shareArgs at hf ⊢
    split at hf
    · rename_i l j hl
      split at hf
      · rename_i hp
        cases hf
        rw [shareArgs_congr hl hi]
        simp only [hp, if_true]
      · rename_i hp
        split at hf
        · rename_i v i1 hv
          cases hf
          rw [shareArgs_congr hl (fun k hk => hi k (List.mem_append_right _ hk))]
          simp only [hp, if_false, frzTO_congr hv (fun k hk => hi k (List.mem_append_left _ hk))]
          rfl
        · cases hf
    · cases hf
def exA : List AT → (List AV → Prop) → Prop
  | [], K => K []
  | .a x :: r, K => exA r fun l => K (x :: l)
  | .k c :: r, K => exC [c] fun v => exA r fun l => K (v.map .fz ++ l)
def exOb : List OT → (List Ob → Prop) → Prop
  | [], K => K []
  | .no :: r, K => exOb r fun l => K (.no :: l)
  | .f et sz :: r, K => ∃ es : List (List FV), exOb r fun l => K (.f et sz es :: l)
  | .z sz :: r, K => ∃ es : List (List FV), exOb r fun l => K (.z sz es :: l)
  | .g gt cs :: r, K => exA cs fun c => exOb r fun l => K (.g gt c :: l)
def exP : List (Bool × List AT) → (List (Bool × List AV) → Prop) → Prop
  | [], K => K []
  | (b, cs) :: r, K => exA cs fun c => exP r fun l => K ((b, c) :: l)
theorem exA_out : ∀ {l : List AT} {K : List AV → Prop}, exA l K → ∃ c, K c
  | [], K, h => ⟨[], h⟩
  | .a x :: r, K, h => by obtain ⟨c, h⟩ := exA_out (l := r) h; exact ⟨_, h⟩
  | .k c :: r, K, h => by obtain ⟨v, h⟩ := exC_out (ks := [c]) h; obtain ⟨c, h⟩ := exA_out (l := r) h; exact ⟨_, h⟩
theorem exOb_out : ∀ {l : List OT} {K : List Ob → Prop}, exOb l K → ∃ c, K c ∧ ∀ ob ∈ c, ob ≠ .rs
  | [], K, h => ⟨[], h, by simp⟩
  | .no :: r, K, h => by obtain ⟨c, h, hc⟩ := exOb_out (l := r) h; exact ⟨_, h, fun ob hm => by cases hm with | head => simp | tail _ hm => exact hc ob hm⟩
  | .f et sz :: r, K, h => by obtain ⟨es, h⟩ := h; obtain ⟨c, h, hc⟩ := exOb_out (l := r) h; exact ⟨_, h, fun ob hm => by cases hm with | head => simp | tail _ hm => exact hc ob hm⟩
  | .z sz :: r, K, h => by obtain ⟨es, h⟩ := h; obtain ⟨c, h, hc⟩ := exOb_out (l := r) h; exact ⟨_, h, fun ob hm => by cases hm with | head => simp | tail _ hm => exact hc ob hm⟩
  | .g gt cs :: r, K, h => by
    obtain ⟨c0, h⟩ := exA_out h
    obtain ⟨c, h, hc⟩ := exOb_out (l := r) h
    exact ⟨_, h, fun ob hm => by cases hm with | head => simp | tail _ hm => exact hc ob hm⟩
theorem exP_out : ∀ {l : List (Bool × List AT)} {K : List (Bool × List AV) → Prop}, exP l K → ∃ c, K c
  | [], K, h => ⟨[], h⟩
  | (b, cs) :: r, K, h => by obtain ⟨c0, h⟩ := exA_out h; obtain ⟨c, h⟩ := exP_out (l := r) h; exact ⟨_, h⟩
def orS : List Sig → (Sig → Prop) → Prop
  | [], _ => False
  | [s], f => f s
  | s :: r, f => f s ∨ orS r f
theorem orS_out {f : Sig → Prop} : ∀ {l : List Sig}, orS l f → ∃ s, f s
  | [], h => h.elim
  | [s], h => ⟨s, h⟩
  | s :: s' :: r, h => by
    rcases h with h | h
    · exact ⟨s, h⟩
    · exact orS_out (l := s' :: r) h
def okOb : Ob → Bool
  | .no | .rs => false
  | _ => true
def backW (ids : List Nat) (id : Nat) (k : Nat) (obs : List Ob) : List (Nat × Ob) := (obs.zipIdx k).map fun (ob, k) => (bkN ids id k, bkO ids id ob)
def shOf : List Sig → Nat
  | [] => 0
  | s :: _ => s.sh
def evCallS (P : Program) (dr : Bool) (ss : List Sig) (g : FuncId) (args : List TV) (h : List Ob) (id : Nat) (K : OpK) : Prop :=
  match P.funcs[g]? with
  | some fn =>
    if fn.body.isSome = true ∧ (fn.name == "runtime.NumGoroutine") = false then
      match shareArgs h (shOf ss) (argsK P fn.params.toList args) with
      | some (ags, rd) =>
        let ids := idsH h 64 0 (idsT ags [])
        if ids.Nodup ∧ (ids.all fun o => okOb (getO h o) && !rd.contains o) = true then
          orS (ss.filter fun S => S.n == ids.length) fun S => exOb S.obs fun obs => exP S.res fun l => Fn P g (ags.map (reT ids)) (ids.map fun o => reO ids (getO h o)) (toTV l) obs ∧
            if ids.length ≤ obs.length ∧ (dr = true → obs.length ≤ ids.length + 1) then K (toTV (l.map fun p => (p.1, p.2.map (bkA ids id)))) (zs h rd ++ backW ids id 0 obs) (ids ++ rd) else False
        else False
      | none => False
    else False
  | none => False
def keysOK : Nat → List (Nat × Ob) → Prop
  | _, [] => True
  | n, (o, _) :: r => o ≤ n ∧ keysOK (max n (o + 1)) r
theorem putO_max {h : List Ob} {o : Nat} {ob : Ob} (ho : o ≤ h.length) : (putO h o ob).length = max h.length (o + 1) := by
  unfold putO
  split
  · simp only [List.length_set]; omega
  · simp only [List.length_append, List.length_cons, List.length_nil]; omega
theorem putOs_keys : ∀ (wr : List (Nat × Ob)) (h : List Ob), keysOK h.length wr → h.length ≤ (putOs h wr).length ∧ (∀ p ∈ wr, p.1 < (putOs h wr).length) ∧
    ∀ (o : Nat) (ob : Ob), (putOs h wr)[o]? = some ob → (o, ob) ∈ wr ∨ ((∀ p ∈ wr, p.1 ≠ o) ∧ h[o]? = some ob)
  | [], h, _ => ⟨Nat.le_refl _, by simp, fun o ob ho => .inr ⟨by simp, ho⟩⟩
  | (q, x) :: r, h, hk => by
    obtain ⟨h1, h2⟩ := hk
    have hl := putO_max (h := h) (ob := x) h1
    obtain ⟨i1, i2, i3⟩ := putOs_keys r (putO h q x) (by rw [hl]; exact h2)
    simp only [putOs]
    refine ⟨by omega, fun p hp => ?_, fun o ob ho => ?_⟩
    · cases hp with
      | head => simp only; omega
      | tail _ hp => exact i2 p hp
    · rcases i3 o ob ho with h3 | ⟨h3, h4⟩
      · exact .inl (List.mem_cons_of_mem _ h3)
      · rw [putO_get h1] at h4
        by_cases e : o = q
        · rw [if_pos e] at h4
          cases h4
          exact .inl (by rw [e]; simp)
        · rw [if_neg e] at h4
          refine .inr ⟨fun p hp => ?_, h4⟩
          cases hp with
          | head => exact fun e' => e e'.symm
          | tail _ hp => exact h3 p hp
theorem backW_keys {ids : List Nat} {id n : Nat} (hids : ∀ o ∈ ids, o < n) (hid : id ≤ n) : ∀ (obs : List Ob) (k L : Nat), n ≤ L → (ids.length < k → id + (k - ids.length) ≤ L) → keysOK L (backW ids id k obs)
  | [], k, L, _, _ => trivial
  | ob :: obs, k, L, hL, hk => by
    simp only [backW, List.zipIdx_cons, List.map_cons, keysOK]
    have hkey : bkN ids id k ≤ L := by
      unfold bkN
      cases hi : ids[k]? with
      | some o => have := hids o (List.mem_of_getElem? hi); simp only; omega
      | none =>
        have h1 : ids.length ≤ k := by simpa using hi
        simp only
        rcases Nat.lt_or_ge ids.length k with h' | h'
        · exact hk h'
        · have : k = ids.length := by omega
          subst this
          simp; omega
    refine ⟨hkey, backW_keys hids hid obs (k + 1) _ (by omega) (fun h' => ?_)⟩
    have : bkN ids id k = id + (k - ids.length) := by
      unfold bkN
      rw [List.getElem?_eq_none (by omega)]
    omega
theorem backW_mem {ids : List Nat} {id : Nat} {obs : List Ob} {o : Nat} {ob : Ob} : (o, ob) ∈ backW ids id 0 obs ↔ ∃ k ob0, bkN ids id k = o ∧ obs[k]? = some ob0 ∧ ob = bkO ids id ob0 := by
  simp only [backW, List.mem_map, Prod.mk.injEq, Prod.exists]
  constructor
  · rintro ⟨ob0, k, h1, h2, h3⟩
    have := List.mem_zipIdx_iff_getElem?.1 h1
    exact ⟨k, ob0, h2, this, h3.symm⟩
  · rintro ⟨k, ob0, h1, h2, h3⟩
    exact ⟨ob0, k, List.mem_zipIdx_iff_getElem?.2 h2, h1, h3.symm⟩
section
variable {P : Program} {ext : Nat → Prop} {w0 : World} {own0 : Own0} {locs : Nat → Option Loc} {h : List Ob} {w : World}
theorem shareArgs_ok {rd : List Nat} (H : RepH P ext w0 own0 locs h w) : ∀ {m : Nat} {ts rs : List TV} {i : List Nat}, shareArgs h m ts = some (rs, i) → (∀ k ∈ i, k ∈ rd) → rs.length = ts.length ∧
    ∀ (vs : List Value), (∀ (j : Nat) (x : TV), ts[j]? = some x → ∃ u, vs[j]? = some u ∧ RT w (Bar ext locs h) locs x u) → ∀ (j : Nat) (x : TV), rs[j]? = some x → ∃ u, vs[j]? = some u ∧ RT w (Bar ext locs (putOs h (zs h rd))) locs x u
  | m, [], rs, i, hf, hi => by cases hf; exact ⟨rfl, by simp⟩
  | m, a :: r, rs, i, hf, hi => by
    unfold shareArgs at hf
    split at hf
    · rename_i l j hl
      split at hf
      · cases hf
        obtain ⟨h1, h2⟩ := shareArgs_ok H hl hi
        refine ⟨by simp [h1], fun vs hvs q x hx => ?_⟩
        cases q with
        | zero =>
          cases hx
          obtain ⟨u, hu, hr⟩ := hvs 0 _ rfl
          exact ⟨u, hu, hr.later (zs_ok rd H).2.1 (fun _ _ h => h)⟩
        | succ q =>
          cases vs with
          | nil => obtain ⟨u, hu, _⟩ := hvs 0 _ rfl; cases hu
          | cons v vs => exact h2 vs (fun q' x' hx' => hvs (q' + 1) x' hx') q x hx
      · split at hf
        · rename_i v i1 hv
          cases hf
          obtain ⟨h1, h2⟩ := shareArgs_ok H hl (fun k hk => hi k (List.mem_append_right _ hk))
          refine ⟨by simp [h1], fun vs hvs q x hx => ?_⟩
          cases q with
          | zero =>
            cases hx
            obtain ⟨u, hu, hr⟩ := hvs 0 _ rfl
            exact ⟨u, hu, frzTO_ok H hv (fun k hk => hi k (List.mem_append_left _ hk)) hr locs⟩
          | succ q =>
            cases vs with
            | nil => obtain ⟨u, hu, _⟩ := hvs 0 _ rfl; cases hu
            | cons v vs => exact h2 vs (fun q' x' hx' => hvs (q' + 1) x' hx') q x hx
        · cases hf
    · cases hf
theorem zs_get : ∀ (rd : List Nat) (h : List Ob) (o : Nat), o ∉ rd → (putOs h (zs h rd))[o]? = h[o]?
  | [], h, o, _ => rfl
  | q :: r, h, o, ho => by
    unfold zs
    split
    · rename_i et sz es hg
      have hq : h[q]? = some (.f et sz es) := getO_some hg (by simp)
      simp only [putOs, putO_lt hq]
      rw [zs_get r _ o (fun hm => ho (List.mem_cons_of_mem _ hm)), set_get hq, if_neg (fun e => ho (by rw [e]; simp))]
    · exact zs_get r h o (fun hm => ho (List.mem_cons_of_mem _ hm))
theorem callS_core {C : Array Value → World → (Ending → World → Prop) → Prop} {E : Ending → Value → Prop} (hC : ∀ (vals : Array Value) (w : World) (R R' : Ending → World → Prop), (∀ e w', R e w' → R' e w') → C vals w R → C vals w R') (H : RepH P ext w0 own0 locs h w) {m : Nat} {ts ags : List TV} {rd : List Nat} (hs : shareArgs h m ts = some (ags, rd)) {ids : List Nat} (hn : ids.Nodup) (hok : (ids.all fun o => okOb (getO h o) && !rd.contains o) = true)
    {id : Nat} {l : List (Bool × List AV)} {obs : List Ob} (hrs : ∀ ob ∈ obs, ob ≠ .rs) (hlen : ids.length ≤ obs.length) (hid : id ≤ h.length) (hfr : ∀ j, j < obs.length - ids.length → locs (id + j) = none)
    (F : FnC P C E (ags.map (reT ids)) (ids.map fun o => reO ids (getO h o)) (toTV l) obs) {vals : Array Value} (hv : vals.size = ts.length)
    (hrep : ∀ (i : Nat) (x : TV), ts[i]? = some x → ∃ v, vals[i]? = some v ∧ RT w (Bar ext locs h) locs x v) :
    C vals w fun e w' => ∃ v locs', E e v ∧ RepH P ext w0 own0 locs' (putOs h (zs h rd ++ backW ids id 0 obs)) w' ∧ Later w (Bar ext locs h) w' (Bar ext locs' (putOs h (zs h rd ++ backW ids id 0 obs))) ∧
      (∀ (o : Nat) (x : Loc), locs o = some x → locs' o = some x) ∧ RT w' (Bar ext locs' (putOs h (zs h rd ++ backW ids id 0 obs))) locs' (toTV (l.map fun p => (p.1, p.2.map (bkA ids id)))) v := by
  obtain ⟨H2, lt2, hlen2, _⟩ := zs_ok rd H
  rw [putOs_app]
  obtain ⟨s1, s2⟩ := shareArgs_ok (rd := rd) H hs (fun _ h => h)
  have hok' : ∀ o ∈ ids, okOb (getO h o) = true ∧ o ∉ rd := fun o ho => by
    have := List.all_eq_true.1 hok o ho
    simpa using this
  have hsame : ∀ o ∈ ids, (putOs h (zs h rd))[o]? = h[o]? := fun o ho => zs_get rd h o (hok' o ho).2
  generalize hh2 : putOs h (zs h rd) = h2 at *
  have hmap : (ids.map fun o => reO ids (getO h o)) = ids.map fun o => reO ids (getO h2 o) := List.map_congr_left fun o ho => by rw [getO_congr (hsame o ho)]
  rw [hmap] at F
  have hids : ∀ o ∈ ids, ∃ ob, h2[o]? = some ob ∧ ob ≠ .no ∧ ob ≠ .rs := fun o ho => by
    have h1 := (hok' o ho).1
    rw [← getO_congr (hsame o ho)] at h1
    refine ⟨getO h2 o, getO_some rfl ?_, ?_, ?_⟩ <;> (intro e; rw [e] at h1; cases h1)
  have hloc : ∀ o ∈ ids, ∃ lc, locs o = some lc := fun o ho => by
    obtain ⟨ob, h1, h2, h3⟩ := hids o ho
    obtain ⟨lc, hl, _⟩ := H2.get h1 h2 h3
    exact ⟨lc, hl⟩
  let own1 := ownB (reLocs locs ids) (ids.map fun o => reO ids (getO h2 o))
  have hown0 : ∀ b, own1 b → ownB locs h2 b := by
    rintro b ⟨k, lc, d, ob, i1, i2, i3, i4, rfl⟩
    simp only [List.getElem?_map, Option.map_eq_some_iff] at i1
    obtain ⟨o, g1, g2⟩ := i1
    have hl : (getO h2 o).live = true := by
      rw [← g2] at i2
      cases hq : getO h2 o <;> rw [hq] at i2 <;> first | rfl | cases i2
    exact ⟨o, lc, d, getO h2 o, getO_some rfl (by rintro e; rw [e] at hl; cases hl), hl, by simpa [reLocs, g1] using i3, i4, rfl⟩
  have hhi : ∀ b, own1 b → ¬ isTab b := fun b hb => H2.ownTab b (hown0 b hb)
  obtain ⟨H1, lt1, hown1, hlive1⟩ := reH_gen H2 hn (ext' := fun b => Bar ext locs h2 b ∧ ¬ own1 b) (w0' := w) (own0' := ⟨own1, reLocs locs ids, []⟩) (fun b hb => hb.1) (fun b hb => hb.2) (fun b _ hb => hb) (Since.refl _ _) (H2.baseAt hhi (fun b hb => H2.barTab b hb.1)) (fun _ _ h => h)
  refine hC _ _ _ _ (fun e w' ⟨v, locs', he, H', hRT⟩ => ⟨v, ?_⟩) (F _ w _ vals H1 (by simp [hv, s1]) (fun i x hx => ?_))
  · simp only [List.getElem?_map, Option.map_eq_some_iff] at hx
    obtain ⟨y, hy, rfl⟩ := hx
    obtain ⟨u, hu, hr⟩ := s2 vals.toList (fun j z hz => by obtain ⟨u, hu, hra⟩ := hrep j z hz; exact ⟨u, by simpa using hu, hra⟩) i y hy
    exact ⟨u, by simpa using hu, reT_ok (hr.later lt1 (fun _ _ h => h))⟩
  · have hidl : ∀ o ∈ ids, o < h2.length := fun o ho => by
      obtain ⟨ob, h1, _⟩ := hids o ho
      rcases Nat.lt_or_ge o h2.length with h' | h'
      · exact h'
      · rw [List.getElem?_eq_none h'] at h1; cases h1
    obtain ⟨k1, k2, k3⟩ := putOs_keys (backW ids id 0 obs) h2 (backW_keys hidl (by rw [hlen2]; exact hid) obs 0 _ (Nat.le_refl _) (by omega))
    have hback : ∀ k, k < obs.length → ∃ ob, (bkN ids id k, ob) ∈ backW ids id 0 obs := fun k hk => ⟨_, backW_mem.2 ⟨k, obs[k], rfl, List.getElem?_eq_getElem hk, rfl⟩⟩
    have hnew : ∀ j, j < obs.length - ids.length → bkN ids id (ids.length + j) = id + j := fun j _ => by
      unfold bkN
      rw [List.getElem?_eq_none (by omega)]
      simp only; omega
    obtain ⟨r1, r2, r3, r4, r5⟩ := share_back (id := id) (m := obs.length - ids.length) H2 hn hids hfr (ext1 := fun b => Bar ext locs h2 b ∧ ¬ own1 b) (fun b => Iff.rfl) H' hown1 hlive1 (by omega) hrs (h3 := putOs h2 (backW ids id 0 obs)) k1
      (fun j hj => by
        obtain ⟨ob, hm⟩ := hback (ids.length + j) (by omega)
        have := k2 _ hm
        rw [hnew j hj] at this
        exact this)
      (fun o ob ho => by
        rcases k3 o ob ho with h1 | ⟨h1, h2'⟩
        · exact .inl (backW_mem.1 h1)
        · refine .inr ⟨fun hm => ?_, fun hm => ?_, h2'⟩
          · obtain ⟨k, hk⟩ := List.getElem?_of_mem hm
            have hlt : k < ids.length := by
              rcases Nat.lt_or_ge k ids.length with h' | h'
              · exact h'
              · rw [List.getElem?_eq_none h'] at hk; cases hk
            obtain ⟨ob', hm'⟩ := hback k (by omega)
            refine h1 _ hm' ?_
            simp [bkN, hk]
          · obtain ⟨ob', hm'⟩ := hback (ids.length + (o - id)) (by omega)
            refine h1 _ hm' ?_
            simp only
            rw [hnew (o - id) (by omega)]
            omega)
    refine ⟨_, he, r1, lt2.trans r2 (Nat.le_refl _), r3, ?_⟩
    refine toTV_rep (by simp) (fun i b cs hi => ⟨cs.map (bkA ids id), by simp [hi], by simp, fun v hv => ?_⟩) hRT
    obtain ⟨vs, h7, h8, h9, h10⟩ := hv
    refine ⟨vs, h7, by simp [h8], h9, fun j x hx => ?_⟩
    simp only [List.getElem?_map, Option.map_eq_some_iff] at hx
    obtain ⟨y, hy, rfl⟩ := hx
    obtain ⟨u, hu, hr⟩ := h10 j y hy
    exact ⟨u, hu, bkA_ok r5 (hr.later ⟨fun _ _ _ => rfl, fun b _ hb => r4 b hb⟩ (fun _ _ h => h))⟩
end
end Go.Proofs.YtejefchehdifhaaGreatDoor.Ev
end
section
set_option linter.unusedVariables false
set_option linter.unusedSimpArgs false
namespace Go.Proofs.YtejefchehdifhaaGreatDoor.Ev
open Go
def evCallG (P : Program) (M : Mode) (dr : Bool) (fo : Operand) (args : List Operand) (t : List TV) (h : List Ob) (id : Nat) (K : OpK) : Prop :=
  match ev t fo with
  | .one (.fz (.fn g caps)) =>
    match M.sig g with
    | [] => evCallF P M dr g (args.map (ev t) ++ caps.map capT) h id K
    | s :: ss => evCallS P dr (s :: ss) g (args.map (ev t) ++ caps.map capT) h id K
  | _ => False
theorem evCallS_split {P : Program} {dr : Bool} {ss : List Sig} {g : FuncId} {args : List TV} {h : List Ob} {id : Nat} {K : OpK} (he : evCallS P dr ss g args h id K) : ∃ fn, P.funcs[g]? = some fn ∧ fn.body.isSome = true ∧ (fn.name == "runtime.NumGoroutine") = false ∧
    ∃ ags rd, shareArgs h (shOf ss) (argsK P fn.params.toList args) = some (ags, rd) ∧ ∃ ids, ids = idsH h 64 0 (idsT ags []) ∧ ids.Nodup ∧ (ids.all fun o => okOb (getO h o) && !rd.contains o) = true ∧
    ∃ (obs : List Ob) (l : List (Bool × List AV)), (∀ ob ∈ obs, ob ≠ .rs) ∧ Fn P g (ags.map (reT ids)) (ids.map fun o => reO ids (getO h o)) (toTV l) obs ∧ ids.length ≤ obs.length ∧ (dr = true → obs.length ≤ ids.length + 1) ∧
      K (toTV (l.map fun p => (p.1, p.2.map (bkA ids id)))) (zs h rd ++ backW ids id 0 obs) (ids ++ rd) := by
  unfold evCallS at he
  split at he
  · rename_i fn hfn
    split at he
    · rename_i hc
      split at he
      · rename_i ags rd hs
        simp only at he
        split at he
        · rename_i hn
          obtain ⟨S, he⟩ := orS_out he
          obtain ⟨obs, he, hrs⟩ := exOb_out he
          obtain ⟨l, F, he⟩ := exP_out he
          split at he
          · rename_i hl
            exact ⟨fn, hfn, hc.1, hc.2, ags, rd, hs, _, rfl, hn.1, hn.2, obs, l, hrs, F, hl.1, hl.2, he⟩
          · exact he.elim
        · exact he.elim
      · exact he.elim
    · exact he.elim
  · exact he.elim
theorem callG_seq {P : Program} {M : Mode} {o : Oper} {fo : Operand} {args argTypes : _} (hop : o.op = .call { callee := .value fo, args := args, argTypes := argTypes }) {t : List TV} {h : List Ob} {K : OpK}
    (he : evCallG P M false fo args.toList t h h.length K) : ∃ v wr rd, K v wr rd ∧ OpSeq P o t h v wr := by
  unfold evCallG at he
  split at he
  · rename_i g caps hfo
    split at he
    · exact call_seq hop (by unfold evCall; rw [hfo]; exact he)
    · obtain ⟨fn, hfn, hb, hnm, ags, rd, hs, ids, hid, hn, hok, obs, l, hrs, F, hl1, hl2, hk⟩ := evCallS_split he
      refine ⟨_, _, _, hk, fun ext w0 own0 a w Q R => ?_⟩
      obtain ⟨locs, H, RTm⟩ := R.repT
      obtain ⟨vals, hrun, hvs, hvr⟩ := call_vals hop hfo hfn hb hnm (fun _ _ => rfl) RTm fn.params.toList
      refine wp_enter hrun ((callS_core (C := Calls P g) (E := isRet) (fun _ _ _ _ hr hc => Calls.mono hc hr) H hs hn hok hrs hl1 (Nat.le_refl _) (fun j _ => H.len _ (Nat.le_add_right _ _)) F.toC hvs hvr).mono fun e w' ⟨v, locs', he, H', lt, hlo, hRT⟩ => ⟨v, he, ?_⟩)
      exact Rep.mkput R RTm H' lt hlo o.dst _ v hRT
  · exact he.elim
theorem callG_ok {P : Program} {M : Mode} {o : Oper} {fo : Operand} {args argTypes : _} (hop : o.op = .call { callee := .value fo, args := args, argTypes := argTypes }) {t : List TV} {h : List Ob} {id : Nat} {K : OpK}
    (he : evCallG P M true fo args.toList t h id K) : ∃ v wr rd, K v wr rd ∧ OpOK P o t h id v wr rd := by
  unfold evCallG at he
  split at he
  · rename_i g caps hfo
    split at he
    · exact call_ok hop (by unfold evCall; rw [hfo]; exact he)
    · obtain ⟨fn, hfn, hb, hnm, ags, rd, hs, ids, hid, hn, hok, obs, l, hrs, F, hl1, hl2, hk⟩ := evCallS_split he
      refine ⟨_, _, _, hk, fun ext w0 own0 t' h' a w Q hlen hag hrd hf R => ?_⟩
      obtain ⟨locs, H, RTm⟩ := R.repT
      obtain ⟨vals, hrun, hvs, hvr⟩ := call_vals hop hfo hfn hb hnm hag RTm fn.params.toList
      have hids : ∀ q ∈ ids, h'[q]? = h[q]? := fun q hq => hrd q (List.mem_append_left _ hq)
      have hrd' : ∀ q ∈ rd, h'[q]? = h[q]? := fun q hq => hrd q (List.mem_append_right _ hq)
      have hs' := shareArgs_congr hs hrd'
      have hmap : (ids.map fun o => reO ids (getO h o)) = ids.map fun o => reO ids (getO h' o) := List.map_congr_left fun q hq => by rw [getO_congr (hids q hq)]
      rw [hmap] at F
      have hok' : (ids.all fun o => okOb (getO h' o) && !rd.contains o) = true := by
        rw [List.all_eq_true] at hok ⊢
        intro q hq
        rw [getO_congr (hids q hq)]
        exact hok q hq
      rw [← zs_congr rd hrd']
      obtain ⟨f1, f2⟩ := fresh_none H hf
      refine wp_enter hrun ((callS_core (C := Calls P g) (E := isRet) (fun _ _ _ _ hr hc => Calls.mono hc hr) H hs' hn hok' hrs hl1 f2 (fun j hj => by
        have : j = 0 := by have := hl2 rfl; omega
        subst this; exact f1) F.toC hvs hvr).mono fun e w' ⟨v, locs', he, H', lt, hlo, hRT⟩ => ⟨v, he, ?_⟩)
      exact Rep.mkput R RTm H' lt hlo o.dst _ v hRT
  · exact he.elim
end Go.Proofs.YtejefchehdifhaaGreatDoor.Ev
end
section
set_option linter.unusedVariables false
set_option linter.unusedSimpArgs false
namespace Go.Proofs.YtejefchehdifhaaGreatDoor.Ev
open Go
def capT1 (h : List Ob) : TV → Option ((Bool × List FV) × List (Nat × Ob) × List Nat)
  | .one (.ptr o 0 0 _) =>
    match getO h o with
    | .g _ cs => match frzL cs with
      | some fs => some ((false, [.fp fs]), [(o, .z cs.length [fs])], [o])
      | none => none
    | .z _ [fs] => some ((false, [.fp fs]), [], [o])
    | _ => none
  | x => match frzT x with
    | some p => some (p, [], [])
    | none => none
def capTs (h : List Ob) : List TV → Option (List (Bool × List FV) × List (Nat × Ob) × List Nat)
  | [] => some ([], [], [])
  | x :: r => match capT1 h x with
    | some (p, wr, rd) => match capTs (putOs h wr) r with
      | some (l, wr', rd') => some (p :: l, wr ++ wr', rd ++ rd')
      | none => none
    | none => none
def evMakeFuncO (t : List TV) (fn : Go.Fn) (first caps : List Operand) (h : List Ob) (K : OpK) : Prop :=
  match fn, first, capTs h (caps.map (ev t)) with
  | .func f, [], some (cs, wr, rd) => K (.one (.fz (.fn f cs))) wr rd
  | _, _, _ => False
section
variable {P : Program} {ext : Nat → Prop} {w0 : World} {own0 : Own0} {locs : Nat → Option Loc} {h h' : List Ob} {w w' : World}
theorem z_ptr {B : Nat → Prop} {sz o : Nat} {fs : List FV} {ty : TypeId} {v : Value} {l : Loc} (hl : locs o = some l) (hob : RepOb P w B locs l (.z sz [fs])) (hv : RA w B locs (.ptr o 0 0 ty) v) : RF w B (.fp fs) v := by
  obtain ⟨l', d, h1, h2, rfl⟩ := hv
  rw [hl] at h1; cases h1
  obtain ⟨hs, hln, hlay⟩ := hob
  rcases hlay with hlay | ⟨b, off, hla, hcell⟩
  · cases hlay
  · rw [hla] at h2; cases h2
    obtain ⟨_, hc⟩ := hcell 0 fs rfl
    simp only [Nat.zero_mul, Nat.add_zero] at hc ⊢
    refine .fp fs b off (fun j => (w.cell? ⟨b, off + j, none⟩).getD undef) (fun j x hx => (hc j x hx).1) (fun j x hx => ?_) (fun j x hx => ?_)
    · obtain ⟨_, v, h1, _⟩ := hc j x hx; rw [h1]; rfl
    · obtain ⟨_, v, h1, h2⟩ := hc j x hx; rw [h1]; exact h2
def KeptV (w : World) (B : Nat → Prop) (p : Bool × List FV) (u : Value) : Prop :=
  ∃ vs : List Value, u = mkV p.1 vs ∧ vs.length = p.2.length ∧ ∀ (j : Nat) (x : FV), p.2[j]? = some x → ∃ v, vs[j]? = some v ∧ RF w B x v
theorem KeptV.later {B B' : Nat → Prop} (l : Later w B w' B') {p : Bool × List FV} {u : Value} (h : KeptV w B p u) : KeptV w' B' p u := by
  obtain ⟨vs, h1, h2, h3⟩ := h
  exact ⟨vs, h1, h2, fun j x hx => by obtain ⟨v, h4, h5⟩ := h3 j x hx; exact ⟨v, h4, h5.later l⟩⟩
theorem getO_eq {o : Nat} (he : h'[o]? = h[o]?) {ob : Ob} (hg : getO h o = ob) (hne : ob ≠ .no) : h'[o]? = some ob := he.trans (getO_some hg hne)
theorem capT1_ok (H : RepH P ext w0 own0 locs h' w) {x : TV} {p : Bool × List FV} {wr : List (Nat × Ob)} {rd : List Nat} (hc : capT1 h x = some (p, wr, rd)) (hag : ∀ i ∈ rd, h'[i]? = h[i]?) {u : Value} (hu : RT w (Bar ext locs h') locs x u) :
    RepH P ext w0 own0 locs (putOs h' wr) w ∧ Later w (Bar ext locs h') w (Bar ext locs (putOs h' wr)) ∧ (∀ i : Nat, h'[i]? = h[i]? → (putOs h' wr)[i]? = (putOs h wr)[i]?) ∧ KeptV w (Bar ext locs (putOs h' wr)) p u := by
  unfold capT1 at hc
  split at hc
  · rename_i o ty
    split at hc
    · rename_i gt cs hg
      split at hc
      · rename_i fs hfs
        cases hc
        have ho := getO_eq (hag o (by simp)) hg (by simp)
        have ho2 : h[o]? = some (.g gt cs) := getO_some hg (by simp)
        obtain ⟨H1, l1⟩ := H.frzG ho hfs
        simp only [putOs, putO_lt ho, putO_lt ho2]
        refine ⟨H1, l1, fun i hi => ?_, ?_⟩
        · rw [set_get ho, set_get ho2, hi]
        · have hz : (h'.set o (.z cs.length [fs]))[o]? = some (.z cs.length [fs]) := by rw [set_get ho, if_pos rfl]
          obtain ⟨l, hl, hob⟩ := H1.get hz (by simp) (by simp)
          have h5 := hu.later l1 (fun _ _ h => h)
          exact ⟨[u], rfl, rfl, fun j x hx => by
            cases j with
            | zero => cases hx; exact ⟨u, rfl, z_ptr (ty := ty) hl hob h5⟩
            | succ j => simp at hx⟩
      · cases hc
    · rename_i sz fs hg
      cases hc
      have ho := getO_eq (hag o (by simp)) hg (by simp)
      obtain ⟨l, hl, hob⟩ := H.get ho (by simp) (by simp)
      refine ⟨H, Later.refl _ _, fun i hi => hi, [u], rfl, rfl, fun j x hx => ?_⟩
      cases j with
      | zero => cases hx; exact ⟨u, rfl, z_ptr (ty := ‹TypeId›) hl hob hu⟩
      | succ j => simp at hx
    · cases hc
  · split at hc
    · rename_i p' hp
      cases hc
      obtain ⟨b, l⟩ := p
      obtain ⟨vs, h1, h2, _, h3⟩ := frzT_ok hp hu
      exact ⟨H, Later.refl _ _, fun i hi => hi, vs, h1, h2, h3⟩
    · cases hc
theorem capTs_ok : ∀ (xs : List TV) {h h' : List Ob} (H : RepH P ext w0 own0 locs h' w) {l : List (Bool × List FV)} {wr : List (Nat × Ob)} {rd : List Nat}, capTs h xs = some (l, wr, rd) → (∀ i ∈ rd, h'[i]? = h[i]?) →
    ∀ (vs : List Value), (∀ (i : Nat) (x : TV), xs[i]? = some x → ∃ v, vs[i]? = some v ∧ RT w (Bar ext locs h') locs x v) →
    RepH P ext w0 own0 locs (putOs h' wr) w ∧ Later w (Bar ext locs h') w (Bar ext locs (putOs h' wr)) ∧ l.length = xs.length ∧ ∀ (i : Nat) (p : Bool × List FV), l[i]? = some p → ∃ u, vs[i]? = some u ∧ KeptV w (Bar ext locs (putOs h' wr)) p u
  | [], h, h', H, l, wr, rd, hc, hag, vs, hv => by
    cases hc
    exact ⟨H, Later.refl _ _, rfl, by simp⟩
  | x :: r, h, h', H, l, wr, rd, hc, hag, vs, hv => by
    unfold capTs at hc
    split at hc
    · rename_i p wr1 rd1 h1
      split at hc
      · rename_i l2 wr2 rd2 h2
        cases hc
        obtain ⟨u, hu, hr⟩ := hv 0 x rfl
        obtain ⟨H1, l1, hs, hk⟩ := capT1_ok H h1 (fun i hi => hag i (by simp [hi])) hr
        obtain ⟨H2, l3, hlen, hrest⟩ := capTs_ok r H1 h2 (fun i hi => hs i (hag i (by simp [hi]))) (vs.drop 1) (fun i y hy => by
          obtain ⟨v, g1, g2⟩ := hv (i + 1) y hy
          exact ⟨v, by rw [List.getElem?_drop, Nat.add_comm]; exact g1, g2.later l1 (fun _ _ h => h)⟩)
        rw [putOs_app]
        refine ⟨H2, l1.trans l3 (Nat.le_refl _), by simp [hlen], fun i q hq => ?_⟩
        cases i with
        | zero => cases hq; exact ⟨u, hu, hk.later l3⟩
        | succ i =>
          obtain ⟨v, g1, g2⟩ := hrest i q hq
          exact ⟨v, by rw [List.getElem?_drop, Nat.add_comm] at g1; exact g1, g2⟩
      · cases hc
    · cases hc
end
theorem makeFuncO_ok {P : Program} {o : Oper} {fn : Go.Fn} {first caps : Array Operand} (hop : o.op = .makeFunc fn first caps) {t : List TV} {h : List Ob} {id : Nat} {K : OpK} (he : evMakeFuncO t fn first.toList caps.toList h K) :
    ∃ v wr rd, K v wr rd ∧ OpOK P o t h id v wr rd := by
  unfold evMakeFuncO at he
  split at he
  · rename_i f cs wr rd h0 h2
    refine ⟨_, _, _, he, fun ext w0 own0 t' h' a w Q hlen hag hrd hf R => ?_⟩
    obtain ⟨locs, H, RTm⟩ := R.repT
    have hfirst : first = #[] := Array.ext' (by simpa using h0)
    subst hfirst
    have hops : ∀ x ∈ caps, ev t' x = ev t x := fun x hx => hag x (by rw [hop]; simpa [Op.operands] using hx)
    obtain ⟨H1, lt, hl, hk⟩ := capTs_ok _ H h2 hrd (caps.toList.map a.eval) (fun i x hx => by
      simp only [List.getElem?_map, Option.map_eq_some_iff] at hx ⊢
      obtain ⟨y, hy, rfl⟩ := hx
      refine ⟨a.eval y, ⟨y, hy, rfl⟩, ?_⟩
      rw [← hops y (by simpa using List.mem_of_getElem? hy)]
      exact ev_rep RTm y)
    have hex : ∀ i : Nat, ∃ vs : List Value, ∀ (b : Bool) (l : List FV), cs[i]? = some (b, l) → (caps.toList.map a.eval)[i]? = some (mkV b vs) ∧ vs.length = l.length ∧ ∀ (j : Nat) (x : FV), l[j]? = some x → ∃ v, vs[j]? = some v ∧ RF w (Bar ext locs (putOs h' wr)) x v := by
      intro i
      cases hc : cs[i]? with
      | none => exact ⟨[], fun b l e => by cases e⟩
      | some p =>
        obtain ⟨u, h5, vs, h6, h7, h8⟩ := hk i p hc
        exact ⟨vs, fun b' l' e => by cases e; exact ⟨by rw [h5, h6], h7, h8⟩⟩
    obtain ⟨vs, hvs⟩ := Classical.axiomOfChoice hex
    refine wp_value (v := .func (.func f) #[] (caps.map a.eval)) (w' := w) (by unfold execOp; rw [hop]; simp [Instr.makeFunc]) ?_
    refine Rep.mkput R RTm H1 lt (fun _ _ h => h) o.dst _ _ ?_
    refine RF.fn f cs vs (caps.map a.eval) (by simpa using hl.symm) (fun i b l hi => ?_) (fun i b l j x v hi hx hv => ?_)
    · obtain ⟨h5, h6, _⟩ := hvs i b l hi
      exact ⟨h6, by simpa using h5⟩
    · obtain ⟨_, _, h7⟩ := hvs i b l hi
      obtain ⟨v', hv', hr'⟩ := h7 j x hx
      rw [hv] at hv'
      cases hv'
      exact hr'
  · exact he.elim
end Go.Proofs.YtejefchehdifhaaGreatDoor.Ev
end
section
set_option linter.unusedVariables false
set_option linter.unusedSimpArgs false
namespace Go.Proofs.YtejefchehdifhaaGreatDoor.Ev
open Go
abbrev XK := FV → List Nat → Prop
theorem shH_len (h : List Ob) : (shH h).length = h.length := by simp [shH]
theorem shH_get (h : List Ob) (o : Nat) : (shH h)[o]? = (h[o]?).map shO := by simp [shH]
theorem shO_idem (ob : Ob) : shO (shO ob) = shO ob := by cases ob <;> simp [shO]
theorem shO_bk (ids : List Nat) (id : Nat) (ob : Ob) : shO (bkO ids id ob) = shO ob := by cases ob <;> simp [shO, bkO]
theorem shO_re (ids : List Nat) (ob : Ob) : shO (reO ids ob) = shO ob := by cases ob <;> simp [shO, reO]
theorem shO_live {ob : Ob} (h : (shO ob).live = true) : ∃ gt cs, ob = .g gt cs := by
  cases ob <;> first | exact ⟨_, _, rfl⟩ | cases h
section
variable {P : Program} {ext : Nat → Prop} {w0 : World} {own0 : Own0} {locs : Nat → Option Loc} {h h' : List Ob} {w w' : World}
theorem sh_live (o : Nat) (ob : Ob) (ho : (shH h)[o]? = some ob) (hl : ob.live = true) : ∃ gt cs, h[o]? = some (.g gt cs) ∧ ob = .g gt (cs.map fun _ => .und) := by
  rw [shH_get, Option.map_eq_some_iff] at ho
  obtain ⟨ob0, h1, rfl⟩ := ho
  obtain ⟨gt, cs, rfl⟩ := shO_live hl
  exact ⟨gt, cs, h1, rfl⟩
theorem sh_own (b : Nat) (hb : ownB locs (shH h) b) : ownB locs h b := by
  obtain ⟨o, l, d, ob, h1, h2, h3, h4, h5⟩ := hb
  obtain ⟨gt, cs, h6, _⟩ := sh_live o ob h1 h2
  exact ⟨o, l, d, _, h6, rfl, h3, h4, h5⟩
theorem RepH.sh (H : RepH P ext w0 own0 locs h w) : RepH P ext w0 own0 locs (shH h) w ∧ Later w (Bar ext locs h) w (Bar ext locs (shH h)) := by
  have lt : Later w (Bar ext locs h) w (Bar ext locs (shH h)) := ⟨fun _ _ _ => rfl, fun b _ hb => hb.elim .inl (fun hb => .inr (sh_own b hb))⟩
  refine ⟨⟨fun o ho => H.len o (by rw [shH_len] at ho; exact ho), fun o ob ho => ?_, fun o o' l l' ob ob' d d' hne ho ho' hlv hlv' hl hl' hd hd' => ?_, fun b hb ho => H.extOwn b hb (sh_own b ho), H.extlt, fun b hb ho => H.ownOld b hb (sh_own b ho), H.since, H.base, H.pins⟩, lt⟩
  · rw [shH_get, Option.map_eq_some_iff] at ho
    obtain ⟨ob0, h1, rfl⟩ := ho
    cases ob0 with
    | g gt cs =>
      obtain ⟨l, hl, hr⟩ := H.get h1 (by simp) (by simp)
      obtain ⟨i1, b, c, i2, i3, i4, i5⟩ := hr
      refine .inr (.inr ⟨l, hl, ⟨by simpa using i1.1, i1.2⟩, b, c, i2, i3, by simpa using i4, fun j x hx => ?_⟩)
      simp only [List.getElem?_map, Option.map_eq_some_iff] at hx
      obtain ⟨y, hy, rfl⟩ := hx
      obtain ⟨v, hv, _⟩ := i5 j y hy
      exact ⟨v, hv, trivial⟩
    | _ => exact .inl rfl
  · obtain ⟨gt, cs, h1, _⟩ := sh_live o ob ho hlv
    obtain ⟨gt', cs', h1', _⟩ := sh_live o' ob' ho' hlv'
    exact H.apart o o' l l' _ _ d d' hne h1 h1' rfl rfl hl hl' hd hd'
theorem shH_putOs : ∀ (wr : List (Nat × Ob)) (h : List Ob), (∀ p ∈ wr, p.1 < h.length ∧ (shH h)[p.1]? = some (shO p.2)) → shH (putOs h wr) = shH h
  | [], h, _ => rfl
  | (o, ob) :: r, h, hk => by
    obtain ⟨h1, h2⟩ := hk (o, ob) (by simp)
    have hp : putO h o ob = h.set o ob := by simp [putO, show o < h.length from h1]
    have he : shH (h.set o ob) = shH h := by
      apply List.ext_getElem?
      intro i
      rw [shH_get, List.getElem?_set]
      by_cases e : o = i
      · subst e
        rw [if_pos rfl, if_pos (show o < h.length from h1)]
        exact h2.symm
      · rw [if_neg e, shH_get]
    simp only [putOs, hp]
    rw [shH_putOs r (h.set o ob) (fun p hp' => by rw [he, List.length_set]; exact hk p (by simp [hp'])), he]
theorem zs_sh : ∀ (rd : List Nat) (h : List Ob), ∀ p ∈ zs h rd, p.1 < h.length ∧ (shH h)[p.1]? = some (shO p.2)
  | [], h, p, hp => by cases hp
  | o :: r, h, p, hp => by
    unfold zs at hp
    split at hp
    · rename_i et sz es hg
      have ho : h[o]? = some (.f et sz es) := getO_some hg (by simp)
      have hlt : o < h.length := (List.getElem?_eq_some_iff.1 ho).1
      have he : shH (h.set o (.z sz es)) = shH h := by
        apply List.ext_getElem?
        intro i
        rw [shH_get, List.getElem?_set]
        by_cases e : o = i
        · subst e
          rw [if_pos rfl, if_pos hlt, shH_get, ho]
          rfl
        · rw [if_neg e, shH_get]
      cases hp with
      | head => exact ⟨hlt, by rw [shH_get, ho]; rfl⟩
      | tail _ hp =>
        have := zs_sh r _ p hp
        rw [he, List.length_set] at this
        exact this
    · exact zs_sh r h p hp
def OpX (P : Program) (o : Oper) (t : List TV) (h : List Ob) (x : FV) (rd : List Nat) : Prop :=
  ∀ (ext : Nat → Prop) (w0 : World) (own0 : Own0) (t' : List TV) (h' : List Ob) (a : Act) (w : World) (K : Act → World → Prop) (Q : Exit → Act → World → Prop),
    t'.length = t.length → (∀ y ∈ o.op.operands, ev t' y = ev t y) → (∀ i ∈ rd, h'[i]? = h[i]?) → Rep P ext w0 own0 ⟨t', h'⟩ a w →
    (∀ v w', Rep P ext w0 own0 ⟨t' ++ [.one (.fz x)], shH h'⟩ { a with tmps := a.tmps.push v } w' → Q (.panic [{ v, recovered := false }]) a w') → o.wp P a w K Q
theorem Rep.mkx {t : List TV} {a : Act} {locs' : Nat → Option Loc} (R : Rep P ext w0 own0 ⟨t, h⟩ a w) (RTm : RepT w (Bar ext locs h) locs t a) (H' : RepH P ext w0 own0 locs' h' w') (lt : Later w (Bar ext locs h) w' (Bar ext locs' h'))
    (hl : ∀ (o : Nat) (x : Loc), locs o = some x → locs' o = some x) {x : TV} {v : Value} (hv : RT w' (Bar ext locs' h') locs' x v) : Rep P ext w0 own0 ⟨t ++ [x], h'⟩ { a with tmps := a.tmps.push v } w' := by
  have hs : a.tmps.size = t.length := R.size
  refine ⟨R.defers, by simp [hs], locs', H', fun i y hy => ?_⟩
  by_cases hi : i < t.length
  · simp only at hy
    rw [List.getElem?_append_left hi] at hy
    obtain ⟨u, hu, hr⟩ := RTm i y hy
    refine ⟨u, ?_, hr.later lt hl⟩
    simp only
    rw [Array.getElem?_push, if_neg (by omega)]
    exact hu
  · simp only at hy
    rw [List.getElem?_append_right (by omega)] at hy
    have hi0 : i - t.length = 0 := by
      rcases Nat.eq_zero_or_pos (i - t.length) with h' | h'
      · exact h'
      · rw [List.getElem?_eq_none (by simp; omega)] at hy; cases hy
    rw [hi0] at hy
    cases hy
    refine ⟨v, ?_, hv⟩
    simp only
    rw [Array.getElem?_push, if_pos (by omega)]
theorem wp_enterX {o : Oper} {a : Act} {g : FuncId} {vals : Array Value} {K : Act → World → Prop} {Q : Exit → Act → World → Prop} (h : (execOp a.eval o).run P w = .ok (.enter g vals) w)
    (hk : Calls P g vals w fun e w' => ∃ v, isPan e v ∧ Q (.panic [{ v, recovered := false }]) a w') : o.wp P a w K Q := by
  unfold Oper.wp
  rw [h]
  exact hk.mono fun e w' ⟨v, he, hkv⟩ => by cases he; exact hkv
end
def evPanic (x : TV) (KX : XK) : Prop :=
  match x with
  | .one (.fz (.ifv t b cs)) => KX (.ifv t b cs) []
  | _ => False
theorem panic_ok {P : Program} {o : Oper} {x : Operand} (hop : o.op = .panic x) {t : List TV} {h : List Ob} {KX : XK} (he : evPanic (ev t x) KX) : ∃ y rd, KX y rd ∧ OpX P o t h y rd := by
  unfold evPanic at he
  split at he
  · rename_i ty b cs hx
    refine ⟨_, _, he, fun ext w0 own0 t' h' a w K Q hlen hag hrd R hQ => ?_⟩
    obtain ⟨locs, H, RTm⟩ := R.repT
    obtain ⟨H1, lt⟩ := H.sh
    have hr := ev_rep RTm x
    rw [hag x (by rw [hop]; simp [Op.operands]), hx] at hr
    generalize hq : a.eval x = q at hr
    have hr0 : RF w (Bar ext locs h') (.ifv ty b cs) q := hr
    cases hr with
    | ifv t b cs vs hl h1 hr =>
      unfold Oper.wp execOp
      rw [hop]
      simp only [hq]
      have : (do pure (Next.value (← Instr.panic (.iface ty (mkV b vs)))) : Sem Next).run P w = .halt (.panic (.iface ty (mkV b vs))) w := by
        simp [Instr.panic, goPanic, Sem.run, bind, Sem.bind]
      show o.upon P a K Q ((do pure (Next.value (← Instr.panic (.iface ty (mkV b vs)))) : Sem Next).run P w)
      rw [this]
      exact hQ _ _ (Rep.mkx R RTm H1 lt (fun _ _ h => h) (hr0.later lt))
  · exact he.elim
def evCallX (P : Program) (ss : List Sig) (g : FuncId) (args : List TV) (h : List Ob) (KX : XK) : Prop :=
  match P.funcs[g]? with
  | some fn =>
    if fn.body.isSome = true ∧ (fn.name == "runtime.NumGoroutine") = false then
      match shareArgs h (shOf ss) (argsK P fn.params.toList args) with
      | some (ags, rd) =>
        let ids := idsH h 64 0 (idsT ags [])
        if ids.Nodup ∧ (ids.all fun o => okOb (getO h o) && !rd.contains o) = true then
          ∃ x : FV, FnX P g (ags.map (reT ids)) (ids.map fun o => reO ids (getO h o)) x ∧ KX x (ids ++ rd)
        else False
      | none => False
    else False
  | none => False
theorem callX_ok {P : Program} {o : Oper} {fo : Operand} {args argTypes : _} (hop : o.op = .call { callee := .value fo, args := args, argTypes := argTypes }) {t : List TV} {h : List Ob} {ss : List Sig} {g : FuncId} {caps : List (Bool × List FV)} {KX : XK}
    (hfo : ev t fo = .one (.fz (.fn g caps))) (he : evCallX P ss g (args.toList.map (ev t) ++ caps.map capT) h KX) : ∃ y rd, KX y rd ∧ OpX P o t h y rd := by
  unfold evCallX at he
  split at he
  · rename_i fn hfn
    split at he
    · rename_i hc
      obtain ⟨hb, hnm⟩ := hc
      split at he
      · rename_i ags rd hs
        simp only at he
        split at he
        · rename_i hcond
          obtain ⟨hn, hok⟩ := hcond
          obtain ⟨x, F, hk⟩ := he
          refine ⟨_, _, hk, fun ext w0 own0 t' h' a w K Q hlen hag hrd R hQ => ?_⟩
          generalize idsH h 64 0 (idsT ags []) = ids at *
          obtain ⟨locs, H, RTm⟩ := R.repT
          obtain ⟨vals, hrun, hvs, hvr⟩ := call_vals hop hfo hfn hb hnm hag RTm fn.params.toList
          have hids : ∀ q ∈ ids, h'[q]? = h[q]? := fun q hq => hrd q (List.mem_append_left _ hq)
          have hrd' : ∀ q ∈ rd, h'[q]? = h[q]? := fun q hq => hrd q (List.mem_append_right _ hq)
          have hs' := shareArgs_congr hs hrd'
          have hmap : (ids.map fun o => reO ids (getO h o)) = ids.map fun o => reO ids (getO h' o) := List.map_congr_left fun q hq => by rw [getO_congr (hids q hq)]
          rw [hmap] at F
          have hok' : (ids.all fun o => okOb (getO h' o) && !rd.contains o) = true := by
            rw [List.all_eq_true] at hok ⊢
            intro q hq
            rw [getO_congr (hids q hq)]
            exact hok q hq
          have hlt : ∀ q ∈ ids, q < h'.length ∧ h'[q]? = some (getO h' q) := fun q hq => by
            have h1 := List.all_eq_true.1 hok' q hq
            simp only [Bool.and_eq_true] at h1
            have h2 := getO_some (h := h') (o := q) rfl (by rintro e; rw [e] at h1; cases h1.1)
            exact ⟨(List.getElem?_eq_some_iff.1 h2).1, h2⟩
          refine wp_enterX hrun ((callS_core (C := Calls P g) (E := isPan) (l := [(false, [.fz x])]) (id := h'.length) (fun _ _ _ _ hr hc => Calls.mono hc hr) H hs' hn hok' (obs := shH (ids.map fun o => reO ids (getO h' o))) (fun ob hm => ?_) (by rw [shH_len, List.length_map]; exact Nat.le_refl _) (Nat.le_refl _)
            (fun j hj => by rw [shH_len, List.length_map] at hj; omega) F hvs hvr).mono fun e w' ⟨v, locs', he, H', lt, hlo, hRT⟩ => ⟨v, he, ?_⟩)
          · simp only [shH, List.mem_map] at hm
            obtain ⟨ob0, _, rfl⟩ := hm
            cases ob0 <;> simp [shO]
          · obtain ⟨H2, lt2⟩ := H'.sh
            have he : shH (putOs h' (zs h' rd ++ backW ids h'.length 0 (shH (ids.map fun o => reO ids (getO h' o))))) = shH h' := by
              refine shH_putOs _ _ fun p hp => ?_
              rcases List.mem_append.1 hp with hp | hp
              · exact zs_sh rd h' p hp
              · obtain ⟨q, ob⟩ := p
                obtain ⟨k, ob0, h1, h2, h3⟩ := backW_mem.1 hp
                rw [shH_get, Option.map_eq_some_iff] at h2
                obtain ⟨ob1, h4, rfl⟩ := h2
                simp only [List.getElem?_map, Option.map_eq_some_iff] at h4
                obtain ⟨q1, h5, rfl⟩ := h4
                have hq : q = q1 := by rw [← h1]; simp [bkN, h5]
                subst hq
                obtain ⟨h6, h7⟩ := hlt q (List.mem_of_getElem? h5)
                refine ⟨h6, ?_⟩
                simp only
                rw [h3, shO_bk, shO_idem, shO_re, shH_get, h7]
                rfl
            have hbar : ∀ b, Bar ext locs' (shH h') b → Bar ext locs' (putOs h' (zs h' rd ++ backW ids h'.length 0 (shH (ids.map fun o => reO ids (getO h' o))))) b := fun b hb => by
              rw [← he] at hb
              exact hb.elim .inl (fun x => .inr (sh_own b x))
            rw [he] at H2 lt2
            have hx : RT w' (Bar ext locs' (putOs h' (zs h' rd ++ backW ids h'.length 0 (shH (ids.map fun o => reO ids (getO h' o)))))) locs' (.one (.fz x)) v := hRT
            exact hQ v w' (Rep.mkx R RTm H2 ⟨lt.same, fun b hb hB => lt.bar b hb (hbar b hB)⟩ hlo (hx.later lt2 (fun _ _ h => h)))
        · exact he.elim
      · exact he.elim
    · exact he.elim
  · exact he.elim
def evIfc (P : Program) (ty : TypeId) (x : TV) (K : OpK) : Prop :=
  if isTy P ty (fun | .interface _ => false | _ => true) = true then
    match frzT x with
    | some (b, l) => K (.one (.fz (.ifv ty b l))) [] []
    | none => False
  else False
theorem ifc_ok {P : Program} {o : Oper} {ty : TypeId} {x : Operand} (hop : o.op = .makeInterface ty x) {t : List TV} {h : List Ob} {id : Nat} {K : OpK} (he : evIfc P ty (ev t x) K) : ∃ v wr rd, K v wr rd ∧ OpOK P o t h id v wr rd := by
  unfold evIfc at he
  split at he
  · rename_i hty
    obtain ⟨d, hd, hf⟩ := isTy_ok hty
    split at he
    · rename_i b l hx
      refine ⟨_, _, _, he, fun ext w0 own0 t' h' a w Q hlen hag hrd hf' R => ?_⟩
      obtain ⟨locs, H, RTm⟩ := R.repT
      have hr := ev_rep RTm x
      rw [hag x (by rw [hop]; simp [Op.operands])] at hr
      obtain ⟨vs, h1, h2, h3, h4⟩ := frzT_ok hx hr
      refine wp_value (v := .iface ty (mkV b vs)) (w' := w) ?_ (Rep.mkput R RTm H (Later.refl _ _) (fun _ _ h => h) o.dst _ _ (RF.ifv ty b l vs h2 h3 fun j y v hy hv => ?_))
      · unfold execOp
        rw [hop]
        simp only [h1]
        cases d <;> first | (cases hf; done) | simp [Instr.makeInterface, run_underlying hd]
      · obtain ⟨u, hu, hra⟩ := h4 j y hy
        rw [hv] at hu; cases hu
        exact hra
    · exact he.elim
  · exact he.elim
def evAssert (P : Program) (x : TV) (ty : TypeId) (ok : Bool) (K : OpK) : Prop :=
  match x with
  | .one (.fz (.ifv u b l)) => if ok = true ∧ u = ty ∧ isTy P ty (fun | .interface _ => false | _ => true) = true then K (.tup [(b, l.map .fz), (false, [.kb true])]) [] [] else False
  | _ => False
theorem assert_ok {P : Program} {o : Oper} {ty xty : TypeId} {ok : Bool} {x : Operand} (hop : o.op = .typeAssert x xty ty ok) {t : List TV} {h : List Ob} {id : Nat} {K : OpK} (he : evAssert P (ev t x) ty ok K) : ∃ v wr rd, K v wr rd ∧ OpOK P o t h id v wr rd := by
  unfold evAssert at he
  split at he
  · rename_i u b l hx
    split at he
    · rename_i hc
      obtain ⟨rfl, rfl, hty⟩ := hc
      obtain ⟨d, hd, hf⟩ := isTy_ok hty
      refine ⟨_, _, _, he, fun ext w0 own0 t' h' a w Q hlen hag hrd hf' R => ?_⟩
      obtain ⟨locs, H, RTm⟩ := R.repT
      have hr := ev_rep RTm x
      rw [hag x (by rw [hop]; simp [Op.operands]), hx] at hr
      generalize hq : a.eval x = q at hr
      cases hr with
      | ifv t b cs vs hl h1 hr =>
        refine wp_value (v := .tuple #[mkV b vs, .bool true]) (w' := w) ?_ (Rep.mkput R RTm H (Later.refl _ _) (fun _ _ h => h) o.dst _ _ ⟨#[mkV b vs, .bool true], rfl, rfl, fun i b' cs' hi => ?_⟩)
        · unfold execOp
          rw [hop]
          simp only [hq]
          cases d <;> first | (cases hf; done) | simp [Instr.typeAssert, run_underlying hd]
        · match i, hi with
          | 0, hi =>
            cases hi
            refine ⟨_, rfl, vs, rfl, by simp [hl], h1, fun j y hy => ?_⟩
            obtain ⟨z, hz, rfl⟩ := map_fz hy
            have hj : j < vs.length := by rw [hl]; exact (List.getElem?_eq_some_iff.1 hz).1
            exact ⟨vs[j], List.getElem?_eq_getElem hj, hr j z _ hz (List.getElem?_eq_getElem hj)⟩
          | 1, hi =>
            cases hi
            refine ⟨_, rfl, [.bool true], rfl, rfl, fun _ => rfl, fun j y hy => ?_⟩
            cases j with
            | zero => cases hy; exact ⟨_, rfl, rfl⟩
            | succ j => simp at hy
          | i + 2, hi => simp at hi
    · exact he.elim
  · exact he.elim
end Go.Proofs.YtejefchehdifhaaGreatDoor.Ev
end
section
set_option linter.unusedVariables false
set_option linter.unusedSimpArgs false
namespace Go.Proofs.YtejefchehdifhaaGreatDoor.Ev
open Go
def evCallGX (P : Program) (M : Mode) (dr : Bool) (fo : Operand) (args : List Operand) (t : List TV) (h : List Ob) (id : Nat) (K : OpK) (KX : XK) : Prop :=
  match ev t fo with
  | .one (.fz (.fn g caps)) =>
    match M.mp g with
    | true => evCallX P (M.sig g) g (args.map (ev t) ++ caps.map capT) h KX ∨ evCallG P M dr fo args t h id K
    | false => evCallG P M dr fo args t h id K
  | _ => False
def evOp (P : Program) (M : Mode) (dr : Bool) (o : Oper) (t : List TV) (h : List Ob) (id : Nat) (K : OpK) (KX : XK) : Prop :=
  match o.op with
  | .load ty x => evLoad P ty (ev t x) h K
  | .store ty p x => evStore P ty (ev t p) (ev t x) h K
  | .box ty x => evBox P ty (ev t x) id K
  | .alloc ty =>
    match rowZ P ty with
    | true => evAllocA P ty id K
    | false => evAlloc P ty id K
  | .makeFunc fn first caps => evMakeFuncO t fn first.toList caps.toList h K
  | .buildSlice ty n parts => evBuildSlice P ty n t parts.toList id K
  | .makeSlice ty l c => evMakeSlice P ty (ev t l) (ev t c) id K
  | .indexAddr ty x i =>
    match ev t x with
    | .one (.ofl _ _) => evIndexAddrO P ty (ev t x) (ev t i) h K
    | .one (.ptr _ _ _ _) => evIndexAddrA P ty (ev t x) (ev t i) h K
    | _ => evPure P o.op o.type t fun v => K v [] []
  | .slice ty x lo hi mx =>
    match ev t x with
    | .one (.ofl _ _) =>
      match bound t lo, bound t hi, bound t mx with
      | some l, some u, some m => evSliceO P ty (ev t x) l u m h id K
      | _, _, _ => False
    | .one (.ptr _ _ _ _) =>
      match bound t lo, bound t hi, bound t mx with
      | some l, some u, some m => evSliceA P ty (ev t x) l u m h id K
      | _, _, _ => False
    | _ => evPure P o.op o.type t fun v => K v [] []
  | .convert s d x =>
    match ev t x, P.underlying d with
    | .one (.ofl _ _), _ => evConvO P s d (ev t x) h K
    | .one (.fz (.str _)), some (.slice _) => evConvO P s d (ev t x) h K
    | _, _ => evPure P o.op o.type t fun v => K v [] []
  | .call { callee := .builtin .len, args, argTypes } =>
    match args.toList, argTypes.toList with
    | [x], [ty] =>
      match ev t x with
      | .one (.ofl _ _) => evLenO P ty (ev t x) h K
      | _ => evPure P o.op o.type t fun v => K v [] []
    | _, _ => False
  | .call { callee := .builtin .append, args, argTypes } =>
    match args.toList, argTypes.toList with
    | [s, x], [ty, ty2] =>
      match ev t x with
      | .one (.fz (.int _ _)) => evAppendZ P ty ty2 (ev t s) (ev t x) id K
      | _ => evAppend P ty ty2 (ev t s) (ev t x) h id K
    | _, _ => False
  | .call { callee := .value f, args, argTypes } => evCallGX P M dr f args.toList t h id K KX
  | .panic x => evPanic (ev t x) KX
  | .makeInterface ty x => evIfc P ty (ev t x) K
  | .typeAssert x _ ty ok => evAssert P (ev t x) ty ok K
  | _ => evPure P o.op o.type t fun v => K v [] []
theorem evOp_split {P : Program} {M : Mode} {dr : Bool} {o : Oper} {t : List TV} {h : List Ob} {id : Nat} {K : OpK} {KX : XK} (he : evOp P M dr o t h id K KX) :
    (∃ v wr rd, K v wr rd ∧ OpOK P o t h id v wr rd) ∨ (∃ fo args argTypes, o.op = .call { callee := .value fo, args := args, argTypes := argTypes } ∧ evCallG P M dr fo args.toList t h id K) ∨ (∃ x rd, KX x rd ∧ OpX P o t h x rd) := by
  have pure : evPure P o.op o.type t (fun v => K v [] []) → ∃ v wr rd, K v wr rd ∧ OpOK P o t h id v wr rd := fun he => by
    obtain ⟨v, hk, hv⟩ := pure_ok he h id
    exact ⟨v, [], [], hk, hv⟩
  unfold evOp at he
  split at he
  · exact .inl (load_ok ‹_› he)
  · exact .inl (store_ok ‹_› he)
  · exact .inl (box_ok ‹_› he)
  · split at he
    · exact .inl (allocA_ok ‹_› ‹_› he)
    · exact .inl (alloc_ok ‹_› he)
  · exact .inl (makeFuncO_ok ‹_› he)
  · exact .inl (buildSlice_ok ‹_› he)
  · exact .inl (makeSlice_ok ‹_› he)
  · split at he
    · exact .inl (indexAddrO_ok ‹_› he)
    · exact .inl (indexAddrA_ok ‹_› he)
    · exact .inl (pure he)
  · split at he
    · split at he
      · exact .inl (sliceO_ok ‹_› ‹_› ‹_› ‹_› he)
      · exact he.elim
    · split at he
      · exact .inl (sliceA_ok ‹_› ‹_› ‹_› ‹_› he)
      · exact he.elim
    · exact .inl (pure he)
  · split at he
    · exact .inl (convO_ok ‹_› he)
    · exact .inl (convO_ok ‹_› he)
    · exact .inl (pure he)
  · rename_i args argTypes hop
    split at he
    · rename_i x ty hx hty
      split at he
      · have ea : args = #[x] := Array.ext' (by simpa using hx)
        have et : argTypes = #[ty] := Array.ext' (by simpa using hty)
        subst ea et
        exact .inl (lenO_ok hop he)
      · exact .inl (pure he)
    · exact he.elim
  · rename_i args argTypes hop
    split at he
    · rename_i s x ty ty2 hx hty
      have ea : args = #[s, x] := Array.ext' (by simpa using hx)
      have et : argTypes = #[ty, ty2] := Array.ext' (by simpa using hty)
      subst ea et
      split at he
      · exact .inl (appendZ_ok hop he)
      · exact .inl (append_ok hop he)
    · exact he.elim
  · rename_i fo args argTypes hop
    unfold evCallGX at he
    split at he
    · rename_i g caps hfo
      split at he
      · rcases he with he | he
        · exact .inr (.inr (callX_ok hop hfo he))
        · exact .inr (.inl ⟨_, _, _, hop, he⟩)
      · exact .inr (.inl ⟨_, _, _, hop, he⟩)
    · exact he.elim
  · exact .inr (.inr (panic_ok ‹_› he))
  · exact .inl (ifc_ok ‹_› he)
  · exact .inl (assert_ok ‹_› he)
  · exact .inl (pure he)
theorem evOp_ok {P : Program} {M : Mode} {o : Oper} {t : List TV} {h : List Ob} {id : Nat} {K : OpK} {KX : XK} (he : evOp P M true o t h id K KX) : (∃ v wr rd, K v wr rd ∧ OpOK P o t h id v wr rd) ∨ (∃ x rd, KX x rd ∧ OpX P o t h x rd) := by
  rcases evOp_split he with h | ⟨fo, args, argTypes, hop, h⟩ | h
  · exact .inl h
  · exact .inl (callG_ok hop h)
  · exact .inr h
theorem evOp_seq {P : Program} {M : Mode} {o : Oper} {t : List TV} {h : List Ob} {K : OpK} {KX : XK} (he : evOp P M false o t h h.length K KX) : (∃ v wr rd, K v wr rd ∧ OpSeq P o t h v wr) ∨ (∃ x rd, KX x rd ∧ OpX P o t h x rd) := by
  rcases evOp_split he with ⟨v, wr, rd, hk, hv⟩ | ⟨fo, args, argTypes, hop, h⟩ | h
  · exact .inl ⟨v, wr, rd, hk, hv.seq⟩
  · exact .inl (callG_seq hop h)
  · exact .inr h
def guardK (cl : Bool) (ops : Array Oper) (o : Oper) (t : List TV) (yes no : List TV → Prop) : Prop :=
  match o.guard with
  | none => yes t
  | some (j, want) =>
    match (ops[j]?).bind (·.dst) with
    | some d =>
      match t.getD d .und with
      | .one (.kb true) => if want = true then yes t else no t
      | .one (.kb false) => if want = false then yes t else no t
      | .one (.fz (.bool b)) => splitB cl b (if want = true then yes (t.set d (.one (.kb true))) else no (t.set d (.one (.kb true)))) (if want = false then yes (t.set d (.one (.kb false))) else no (t.set d (.one (.kb false))))
      | .one .ub => (if want = true then yes (t.set d (.one (.kb true))) else no (t.set d (.one (.kb true)))) ∧ (if want = false then yes (t.set d (.one (.kb false))) else no (t.set d (.one (.kb false))))
      | .tup [] => no t
      | _ => False
    | none => False
theorem Rep.refine {P : Program} {ext : Nat → Prop} {w0 : World} {own0 : Own0} {t : List TV} {h : List Ob} {a : Act} {w : World} (R : Rep P ext w0 own0 ⟨t, h⟩ a w) {d : Nat} {b : Bool} (hd : a.tmps[d]? = some (.bool b)) :
    Rep P ext w0 own0 ⟨t.set d (.one (.kb b)), h⟩ a w := by
  obtain ⟨locs, H, RTm⟩ := R.repT
  refine ⟨R.defers, by simpa using R.size, locs, H, fun i x hx => ?_⟩
  simp only at hx
  rw [List.getElem?_set] at hx
  by_cases e : d = i
  · subst e
    rw [if_pos rfl] at hx
    split at hx
    · cases hx; exact ⟨_, hd, rfl⟩
    · cases hx
  · rw [if_neg e] at hx
    exact RTm i x hx
theorem guardK_ok {P : Program} {cl : Bool} {ops : Array Oper} {o : Oper} {t : List TV} {yes no : List TV → Prop} (hg : guardK cl ops o t yes no) {ext : Nat → Prop} {w0 : World} {own0 : Own0} {h : List Ob} {a : Act} {w : World} (R : Rep P ext w0 own0 ⟨t, h⟩ a w) :
    (Region.wanted o (yielded ops a.tmps) = true ∧ ∃ t', yes t' ∧ Rep P ext w0 own0 ⟨t', h⟩ a w) ∨ (Region.wanted o (yielded ops a.tmps) = false ∧ ∃ t', no t' ∧ Rep P ext w0 own0 ⟨t', h⟩ a w) := by
  unfold guardK at hg
  unfold Region.wanted
  split at hg
  · rename_i hgn
    simp only [hgn]
    exact .inl ⟨trivial, t, hg, R⟩
  · rename_i j want hgd
    simp only [hgd]
    split at hg
    · rename_i d hd
      obtain ⟨locs, H, RTm⟩ := R.repT
      have hy : yielded ops a.tmps j = match a.tmps[d]? with | some (.bool b) => some b | _ => none := by
        unfold yielded; rw [hd]; rfl
      have hget : ∀ x, t.getD d .und = x → x ≠ .und → ∃ u, a.tmps[d]? = some u ∧ RT w (Bar ext locs h) locs x u := by
        intro x hx hne
        rw [List.getD_eq_getElem?_getD] at hx
        cases hq : t[d]? with
        | none => rw [hq] at hx; exact absurd hx.symm hne
        | some y => rw [hq] at hx; simp only [Option.getD_some] at hx; subst hx; exact RTm d y hq
      have fin : ∀ b, a.tmps[d]? = some (.bool b) → ∀ t', (if want = b then yes t' else no t') → Rep P ext w0 own0 ⟨t', h⟩ a w →
          ((yielded ops a.tmps j == some want) = true ∧ ∃ t', yes t' ∧ Rep P ext w0 own0 ⟨t', h⟩ a w) ∨ ((yielded ops a.tmps j == some want) = false ∧ ∃ t', no t' ∧ Rep P ext w0 own0 ⟨t', h⟩ a w) := by
        intro b hb t' ht' R'
        have hy' : yielded ops a.tmps j = some b := by rw [hy, hb]
        rw [hy']
        by_cases e : want = b
        · subst e
          rw [if_pos rfl] at ht'
          exact .inl ⟨by simp, t', ht', R'⟩
        · rw [if_neg e] at ht'
          exact .inr ⟨by simp only [beq_eq_false_iff_ne, ne_eq, Option.some.injEq]; exact fun e' => e e'.symm, t', ht', R'⟩
      split at hg
      · rename_i hx
        obtain ⟨u, hu, hr⟩ := hget _ hx (by simp)
        cases hr
        exact fin true hu t hg R
      · rename_i hx
        obtain ⟨u, hu, hr⟩ := hget _ hx (by simp)
        cases hr
        exact fin false hu t hg R
      · rename_i b hx
        obtain ⟨u, hu, hr⟩ := hget _ hx (by simp)
        cases hr
        cases b with
        | true => exact fin true hu _ ((splitB_ok hg).1 rfl) (R.refine hu)
        | false => exact fin false hu _ ((splitB_ok hg).2 rfl) (R.refine hu)
      · rename_i hx
        obtain ⟨u, hu, b, rfl⟩ := hget _ hx (by simp)
        cases b with
        | true => exact fin true hu _ hg.1 (R.refine hu)
        | false => exact fin false hu _ hg.2 (R.refine hu)
      · rename_i hx
        obtain ⟨u, hu, vs, rfl, _, _⟩ := hget _ hx (by simp)
        exact .inr ⟨by rw [hy, hu]; rfl, t, hg, R⟩
      · exact hg.elim
    · exact hg.elim
def trOps (P : Program) (M : Mode) (ops : Array Oper) (k : St → Prop) : List Nat → St → Prop
  | [], st => k st
  | i :: r, st =>
    match ops[i]? with
    | none => trOps P M ops k r st
    | some o => guardK M.cl ops o st.t (fun t => evOp P M false o t st.h st.h.length (fun v wr _ => trOps P M ops k r ⟨putT t o.dst v, putOs st.h wr⟩) fun x _ => M.kp x ⟨t, shH st.h⟩) (fun t => trOps P M ops k r ⟨putT t o.dst (.tup []), st.h⟩)
theorem Rep.skipped {P : Program} {ext : Nat → Prop} {w0 : World} {own0 : Own0} {t : List TV} {h : List Ob} {a : Act} {w : World} (R : Rep P ext w0 own0 ⟨t, h⟩ a w) (dst : Option Tmp) : Rep P ext w0 own0 ⟨putT t dst (.tup []), h⟩ (a.put dst undef) w := by
  obtain ⟨locs, H, RTm⟩ := R.repT
  exact Rep.mkput R RTm H (Later.refl _ _) (fun _ _ h => h) dst (.tup []) undef ⟨#[], rfl, rfl, by simp⟩
def PanQ (P : Program) (M : Mode) (ext : Nat → Prop) (w0 : World) (own0 : Own0) (Q : Exit → Act → World → Prop) : Prop :=
  ∀ (x : FV) (st : St) (v : Value) (a : Act) (w : World), M.kp x st → Rep P ext w0 own0 ⟨st.t ++ [.one (.fz x)], st.h⟩ { a with tmps := a.tmps.push v } w → Q (.panic [{ v, recovered := false }]) a w
theorem trOps_ok {P : Program} {M : Mode} {ops : Array Oper} {k : St → Prop} {ext : Nat → Prop} {w0 : World} {own0 : Own0} {Q : Exit → Act → World → Prop} (hQ : ∀ st a w, k st → Rep P ext w0 own0 st a w → Q .normal a w)
    (hX : PanQ P M ext w0 own0 Q) :
    ∀ (l : List Nat) (st : St) (a : Act) (w : World), trOps P M ops k l st → Rep P ext w0 own0 st a w → wpOps P ops Q l a w
  | [], st, a, w, h, R => hQ st a w h R
  | i :: r, st, a, w, h, R => by
    unfold trOps at h
    unfold wpOps
    cases ho : ops[i]? with
    | none => simp only [ho] at h ⊢; exact trOps_ok hQ hX r st a w h R
    | some o =>
      simp only [ho] at h ⊢
      rcases guardK_ok h R with ⟨hw, t', ht', R'⟩ | ⟨hw, t', ht', R'⟩
      · rw [if_pos hw]
        left
        rcases evOp_seq ht' with ⟨v, wr, rd, hk, hv⟩ | ⟨x, rd, hk, hv⟩
        · exact Oper.wp_mono (fun a' w' R2 => trOps_ok hQ hX r _ a' w' hk R2) (hv ext w0 own0 a w Q R')
        · exact hv ext w0 own0 _ _ a w _ Q rfl (fun _ _ => rfl) (fun _ _ => rfl) R' (fun v w' R2 => hX x ⟨t', shH st.h⟩ v a w' hk R2)
      · rw [if_neg (by rw [hw]; simp)]
        exact trOps_ok hQ hX r _ _ w ht' (R'.skipped o.dst)
end Go.Proofs.YtejefchehdifhaaGreatDoor.Ev
end
section
set_option linter.unusedVariables false
set_option linter.unusedSimpArgs false
namespace Go.Proofs.YtejefchehdifhaaGreatDoor.Ev
open Go
structure Rec where
  dst : Option Tmp
  v : TV
  wr : List (Nat × Ob)
  rd : List Nat
def Rec.app (st : St) (r : Rec) : St := ⟨putT st.t r.dst r.v, putOs st.h r.wr⟩
def Rec.ids (r : Rec) : List Nat := r.wr.map (·.1)
def isGuard (ops : Array Oper) (i : Nat) : Bool := ops.toList.any fun o => match o.guard with | some (j, _) => j == i | none => false
def knowV (cl : Bool) (g : Bool) (v : TV) (K : TV → Prop) : Prop :=
  match g, v with
  | true, .one (.fz (.bool b)) => splitB cl b (K (.one (.kb true))) (K (.one (.kb false)))
  | _, v => K v
def guardD (ops : Array Oper) (o : Oper) (t : List TV) (yes no : Prop) : Prop :=
  match o.guard with
  | none => yes
  | some (j, want) =>
    match (ops[j]?).bind (·.dst) with
    | some d =>
      match t.getD d .und with
      | .one (.kb true) => if want = true then yes else no
      | .one (.kb false) => if want = false then yes else no
      | .tup [] => no
      | _ => False
    | none => False
def masks : List Oper → List Nat → List Nat
  | [], acc => acc
  | o :: r, acc => masks r (acc ++ [o.after.toList.foldl (fun s e => if Region.binds .any e = true then s ||| 2 ^ e.on ||| acc.getD e.on 0 else s) 0])
def ordB (ms : List Nat) (i j : Nat) : Bool := decide (i < j) && (ms.getD j 0).testBit i
def skipB (ops : Array Oper) (pn : Option (Nat × FV)) (i : Nat) : Bool :=
  match pn with
  | none => false
  | some (i0, _) => i0 == i || ordB (masks ops.toList []) i0 i
def onlyN (pn : Option (Nat × FV)) (p : Prop) : Prop :=
  match pn with
  | none => p
  | some _ => False
def trDr (P : Program) (M : Mode) (ops : Array Oper) (base : Nat) (k : List Rec → St → Prop) (kx : Nat → FV → List Rec → Prop) : List Nat → Option (Nat × FV) → List Rec → St → Prop
  | [], none, acc, st => k acc st
  | [], some (i0, x), acc, _ => kx i0 x acc
  | i :: r, pn, acc, st =>
    match ops[i]? with
    | none => False
    | some o =>
      match skipB ops pn i with
      | true => trDr P M ops base k kx r pn (acc ++ [⟨o.dst, .und, [], []⟩]) ⟨putT st.t o.dst .und, st.h⟩
      | false => guardD ops o st.t
        (evOp P M true o st.t st.h (base + i) (fun v wr rd => knowV M.cl (isGuard ops i) v fun v => trDr P M ops base k kx r pn (acc ++ [⟨o.dst, v, wr, rd⟩]) ⟨putT st.t o.dst v, putOs st.h wr⟩)
          fun x rd => onlyN pn (trDr P M ops base k kx r (some (i, x)) (acc ++ [⟨o.dst, .und, [], rd⟩]) ⟨putT st.t o.dst .und, st.h⟩))
        (trDr P M ops base k kx r pn (acc ++ [⟨o.dst, .tup [], [], []⟩]) ⟨putT st.t o.dst (.tup []), st.h⟩)
def okPair (ops : Array Oper) (ms : List Nat) (i j : Nat) (oi oj : Oper) (ri rj : Rec) : Bool :=
  ordB ms i j || ordB ms j i ||
    ((match oi.dst with | some d => !(oj.looksAt ops).contains d | none => true) && !(ri.ids.any fun o => rj.rd.contains o || rj.ids.contains o))
def okDraw (ops : Array Oper) (base : Nat) (recs : List Rec) : Bool :=
  let ms := masks ops.toList []
  let all := ops.toList.zip recs
  (all.length == ops.size) && (all.length == recs.length) &&
  Region.noSelect ops &&
  (all.zipIdx.all fun ((oi, ri), i) =>
    (oi.after.all fun e => !Region.binds .any e || decide (e.on < i)) &&
    (ri.ids.all fun o => decide (o < base + ops.size) && (decide (o < base) || (o - base == i) || ordB ms (o - base) i)) &&
    (all.zipIdx.all fun ((oj, rj), j) => i == j || (okPair ops ms i j oi oj ri rj && (match oi.dst with | some d => oj.dst != some d | none => true))))
def shB : Ob → Option (Nat × Nat)
  | .g gt cs => some (gt, cs.length)
  | _ => none
def okPan (base : Nat) (h : List Ob) (recs : List Rec) : Bool :=
  recs.all fun r => r.wr.all fun (o, ob) => decide (base ≤ o) || shB ob == shB (getO h o)
def undD (ops : Array Oper) (t : List TV) : List TV := t.zipIdx.map fun (v, i) => if ops.toList.any (fun o => o.dst == some i) = true then .und else v
def panSt (ops : Array Oper) (st : St) : St := ⟨undD ops st.t, shH st.h ++ List.replicate ops.size .no⟩
def trDraw (P : Program) (M : Mode) (ops : Array Oper) (k : St → Prop) (st : St) : Prop :=
  trDr P M ops st.h.length (fun recs st' => if okDraw ops st.h.length recs = true then k st' else False)
    (fun _ x recs => if (okDraw ops st.h.length recs && okPan st.h.length st.h recs) = true then M.kp x (panSt ops st) else False)
    (List.range ops.size) none [] ⟨st.t, st.h ++ List.replicate ops.size .rs⟩
def Told (P : Program) (ops : Array Oper) (base i : Nat) (o : Oper) (st : St) (r : Rec) : Prop :=
  r.dst = o.dst ∧
  ((OpOK P o st.t st.h (base + i) r.v r.wr r.rd ∧ (∀ j want d, o.guard = some (j, want) → (ops[j]?).bind (·.dst) = some d → st.t.getD d .und = .one (.kb want)) ∧ (∀ j want, o.guard = some (j, want) → ∃ d, (ops[j]?).bind (·.dst) = some d)) ∨
   (r.v = .tup [] ∧ r.wr = [] ∧ r.rd = [] ∧ ∃ j want d, o.guard = some (j, want) ∧ (ops[j]?).bind (·.dst) = some d ∧ (st.t.getD d .und = .one (.kb (!want)) ∨ st.t.getD d .und = .tup [])))
theorem OpOK.know {P : Program} {o : Oper} {t : List TV} {h : List Ob} {id : Nat} {b : Bool} {wr : List (Nat × Ob)} {rd : List Nat} (hk : OpOK P o t h id (.one (.fz (.bool b))) wr rd) : OpOK P o t h id (.one (.kb b)) wr rd := by
  intro ext w0 own0 t' h' a w Q h1 h2 h3 h4 R
  refine Oper.wp_mono (fun a' w' R' => ?_) (hk ext w0 own0 t' h' a w Q h1 h2 h3 h4 R)
  obtain ⟨locs, H, RTm⟩ := R'.repT
  refine ⟨R'.defers, ?_, locs, H, fun i x hx => ?_⟩
  · have h5 := R'.size
    cases hd : o.dst with
    | none => rw [hd] at h5; exact h5
    | some d => rw [hd] at h5; simpa [putT] using h5
  · cases hd : o.dst with
    | none => rw [hd] at hx RTm; exact RTm i x hx
    | some d =>
      rw [hd] at hx RTm
      simp only [putT] at hx RTm
      rw [List.getElem?_set] at hx
      by_cases e : d = i
      · subst e
        rw [if_pos rfl] at hx
        split at hx
        · rename_i hlt
          cases hx
          obtain ⟨u, hu, hr⟩ := RTm d (.one (.fz (.bool b))) (by rw [List.getElem?_set, if_pos rfl, if_pos hlt])
          cases hr
          exact ⟨_, hu, rfl⟩
        · cases hx
      · rw [if_neg e] at hx
        exact RTm i x (by rw [List.getElem?_set, if_neg e]; exact hx)
def ToldX (P : Program) (ops : Array Oper) (o : Oper) (st : St) (r : Rec) (x : FV) : Prop :=
  OpX P o st.t st.h x r.rd ∧ (∀ j want d, o.guard = some (j, want) → (ops[j]?).bind (·.dst) = some d → st.t.getD d .und = .one (.kb want)) ∧ (∀ j want, o.guard = some (j, want) → ∃ d, (ops[j]?).bind (·.dst) = some d)
def AllTold (P : Program) (ops : Array Oper) (base : Nat) (pn : Option (Nat × FV)) (i : Nat) (st : St) (r : Rec) : Prop :=
  ∃ o, ops[i]? = some o ∧ r.dst = o.dst ∧ (skipB ops pn i = false → Told P ops base i o st r) ∧ ∀ x, pn = some (i, x) → ToldX P ops o st r x
def DrOut (P : Program) (ops : Array Oper) (base : Nat) (k : List Rec → St → Prop) (kx : Nat → FV → List Rec → Prop) (l : List Nat) (pn : Option (Nat × FV)) (acc : List Rec) (st : St) : Prop :=
  ∃ (recs : List Rec) (pn' : Option (Nat × FV)), recs.length = l.length ∧ (pn' = none → k (acc ++ recs) (recs.foldl Rec.app st)) ∧ (∀ i0 x, pn' = some (i0, x) → kx i0 x (acc ++ recs)) ∧ (∀ q, pn = some q → pn' = some q) ∧ (∀ q, pn' = some q → pn = some q ∨ q.1 ∈ l) ∧
    ∀ (n i : Nat) (r : Rec), l[n]? = some i → recs[n]? = some r → AllTold P ops base pn' i ((recs.take n).foldl Rec.app st) r
theorem trDr_out {P : Program} {M : Mode} {ops : Array Oper} {base : Nat} {k : List Rec → St → Prop} {kx : Nat → FV → List Rec → Prop} : ∀ (l : List Nat) (pn : Option (Nat × FV)) (acc : List Rec) (st : St), l.Nodup → (∀ q, pn = some q → q.1 ∉ l) → trDr P M ops base k kx l pn acc st → DrOut P ops base k kx l pn acc st
  | [], none, acc, st, _, _, h => ⟨[], none, rfl, fun _ => by simp only [List.append_nil]; exact h, by simp, by simp, by simp, by simp⟩
  | [], some (i0, x), acc, st, _, _, h => ⟨[], some (i0, x), rfl, by simp, fun i1 x1 e => by cases e; simp only [List.append_nil]; exact h, by simp, fun q e => .inl e, by simp⟩
  | i :: l, pn, acc, st, hnd, hpn, h => by
    unfold trDr at h
    have hi : i ∉ l := (List.nodup_cons.1 hnd).1
    have hl : l.Nodup := (List.nodup_cons.1 hnd).2
    have hpl : ∀ q, pn = some q → q.1 ∉ l := fun q e hm => hpn q e (List.mem_cons_of_mem _ hm)
    split at h
    · exact h.elim
    · rename_i o ho
      have fin : ∀ (r : Rec), r.dst = o.dst → (∀ pn', (∀ q, pn = some q → pn' = some q) → skipB ops pn' i = false → Told P ops base i o st r) → trDr P M ops base k kx l pn (acc ++ [r]) (Rec.app st r) →
          DrOut P ops base k kx (i :: l) pn acc st := by
        intro r hd hr ht
        obtain ⟨recs, pn', h1, h2, h3, h4, h5, h6⟩ := trDr_out l pn _ _ hl hpl ht
        refine ⟨r :: recs, pn', by simp [h1], fun e => by simpa using h2 e, fun i0 x e => by simpa using h3 i0 x e, h4, fun q e => (h5 q e).imp id (fun hm => List.mem_cons_of_mem _ hm), fun n i' r' hn hr' => ?_⟩
        cases n with
        | zero =>
          cases hn; cases hr'
          refine ⟨o, ho, hd, fun hs => hr pn' h4 hs, fun x e => ?_⟩
          rcases h5 _ e with h7 | h7
          · exact absurd (by simp) (hpn _ h7)
          · exact absurd h7 hi
        | succ n => exact h6 n i' r' hn hr'
      have tu : ∀ (r : Rec), Told P ops base i o st r → trDr P M ops base k kx l pn (acc ++ [r]) (Rec.app st r) → DrOut P ops base k kx (i :: l) pn acc st := fun r hr ht => fin r hr.1 (fun _ _ _ => hr) ht
      split at h
      · rename_i hsk
        refine fin ⟨o.dst, .und, [], []⟩ rfl (fun pn' hp hs => ?_) h
        exfalso
        cases hq : pn with
        | none => rw [hq] at hsk; cases hsk
        | some q => rw [hp q hq, ← hq, hsk] at hs; cases hs
      · have yes : (∀ j want d, o.guard = some (j, want) → (ops[j]?).bind (·.dst) = some d → st.t.getD d .und = .one (.kb want)) → (∀ j want, o.guard = some (j, want) → ∃ d, (ops[j]?).bind (·.dst) = some d) →
            (evOp P M true o st.t st.h (base + i) (fun v wr rd => knowV M.cl (isGuard ops i) v fun v => trDr P M ops base k kx l pn (acc ++ [⟨o.dst, v, wr, rd⟩]) ⟨putT st.t o.dst v, putOs st.h wr⟩)
              fun x rd => onlyN pn (trDr P M ops base k kx l (some (i, x)) (acc ++ [⟨o.dst, .und, [], rd⟩]) ⟨putT st.t o.dst .und, st.h⟩)) → DrOut P ops base k kx (i :: l) pn acc st := by
          intro hg1 hg2 he
          rcases evOp_ok he with ⟨v, wr, rd, hk, hv⟩ | ⟨x, rd, hk, hv⟩
          · generalize isGuard ops i = g at hk
            unfold knowV at hk
            split at hk
            · rename_i b
              cases hb : b with
              | true => subst hb; exact tu ⟨o.dst, .one (.kb true), wr, rd⟩ ⟨rfl, .inl ⟨hv.know, hg1, hg2⟩⟩ ((splitB_ok hk).1 rfl)
              | false => subst hb; exact tu ⟨o.dst, .one (.kb false), wr, rd⟩ ⟨rfl, .inl ⟨hv.know, hg1, hg2⟩⟩ ((splitB_ok hk).2 rfl)
            · exact tu ⟨o.dst, _, wr, rd⟩ ⟨rfl, .inl ⟨hv, hg1, hg2⟩⟩ hk
          · cases pn with
            | some q => exact hk.elim
            | none =>
              obtain ⟨recs, pn', h1, h2, h3, h4, h5, h6⟩ := trDr_out l (some (i, x)) _ _ hl (fun q e => by cases e; exact hi) hk
              have hp := h4 _ rfl
              refine ⟨⟨o.dst, .und, [], rd⟩ :: recs, pn', by simp [h1], fun e => by simpa [Rec.app, putOs] using h2 e, fun i0 x e => by simpa using h3 i0 x e, by simp, fun q e => .inr (by rw [hp] at e; cases e; simp), fun n i' r' hn hr' => ?_⟩
              cases n with
              | zero =>
                cases hn; cases hr'
                refine ⟨o, ho, rfl, fun hs => ?_, fun y e => ?_⟩
                · rw [hp] at hs
                  simp [skipB] at hs
                · rw [hp] at e
                  cases e
                  exact ⟨hv, hg1, hg2⟩
              | succ n => exact h6 n i' r' hn hr'
        unfold guardD at h
        split at h
        · rename_i hg
          exact yes (fun j want d h => by rw [hg] at h; cases h) (fun j want h => by rw [hg] at h; cases h) h
        · rename_i j want hg
          split at h
          · rename_i d hd
            have hyes : ∀ b, st.t.getD d .und = .one (.kb b) → want = b → (∀ j want d, o.guard = some (j, want) → (ops[j]?).bind (·.dst) = some d → st.t.getD d .und = .one (.kb want)) ∧ (∀ j want, o.guard = some (j, want) → ∃ d, (ops[j]?).bind (·.dst) = some d) := by
              intro b hb hw
              exact ⟨fun j' want' d' h1 h2 => by rw [hg] at h1; cases h1; rw [hd] at h2; cases h2; rw [hb, hw], fun j' want' h1 => by rw [hg] at h1; cases h1; exact ⟨d, hd⟩⟩
            split at h
            · rename_i hx
              split at h
              · rename_i hw
                obtain ⟨h1, h2⟩ := hyes true hx hw
                exact yes h1 h2 h
              · rename_i hw
                exact tu ⟨o.dst, .tup [], [], []⟩ ⟨rfl, .inr ⟨rfl, rfl, rfl, j, want, d, hg, hd, .inl (by rw [hx]; cases want <;> simp_all)⟩⟩ h
            · rename_i hx
              split at h
              · rename_i hw
                obtain ⟨h1, h2⟩ := hyes false hx hw
                exact yes h1 h2 h
              · rename_i hw
                exact tu ⟨o.dst, .tup [], [], []⟩ ⟨rfl, .inr ⟨rfl, rfl, rfl, j, want, d, hg, hd, .inl (by rw [hx]; cases want <;> simp_all)⟩⟩ h
            · rename_i hx
              exact tu ⟨o.dst, .tup [], [], []⟩ ⟨rfl, .inr ⟨rfl, rfl, rfl, j, want, d, hg, hd, .inr hx⟩⟩ h
            · exact h.elim
          · exact h.elim
end Go.Proofs.YtejefchehdifhaaGreatDoor.Ev
end
section
set_option linter.unusedVariables false
set_option linter.unusedSimpArgs false
namespace Go.Proofs.YtejefchehdifhaaGreatDoor.Ev
open Go
def foldS (S : Nat → Bool) : List Rec → Nat → St → St
  | [], _, st => st
  | r :: rs, k, st => foldS S rs (k + 1) (if S k then Rec.app st r else st)
theorem putT_len (t : List TV) (d : Option Tmp) (v : TV) : (putT t d v).length = t.length := by cases d <;> simp [putT]
theorem putT_get (t : List TV) (d : Option Tmp) (v : TV) (i : Nat) : (putT t d v)[i]? = if d = some i ∧ i < t.length then some v else t[i]? := by
  cases d with
  | none => simp [putT]
  | some d =>
    simp only [putT, List.getElem?_set]
    by_cases e : d = i
    · subst e
      by_cases hl : d < t.length
      · simp [hl]
      · simp [hl]
    · simp [e]
theorem putOs_len : ∀ (wr : List (Nat × Ob)) (h : List Ob), (∀ o ∈ wr.map (·.1), o < h.length) → (putOs h wr).length = h.length
  | [], h, _ => rfl
  | (o, ob) :: r, h, hr => by
    have ho := hr o (by simp)
    have hp : putO h o ob = h.set o ob := by simp [putO, ho]
    simp only [putOs, hp]
    rw [putOs_len r _ (fun k hk => by rw [List.length_set]; exact hr k (by simp at hk ⊢; exact .inr hk))]
    simp
def lastOb (o : Nat) : List (Nat × Ob) → Option Ob
  | [] => none
  | (k, ob) :: r => match lastOb o r with
    | some x => some x
    | none => if k = o then some ob else none
theorem lastOb_none {o : Nat} : ∀ {wr : List (Nat × Ob)}, o ∉ wr.map (·.1) → lastOb o wr = none
  | [], _ => rfl
  | (k, ob) :: r, h => by
    simp only [List.map_cons, List.mem_cons, not_or] at h
    simp only [lastOb, lastOb_none h.2]
    rw [if_neg (fun e => h.1 e.symm)]
theorem lastOb_some {o : Nat} : ∀ {wr : List (Nat × Ob)}, o ∈ wr.map (·.1) → ∃ ob, lastOb o wr = some ob
  | [], h => by cases h
  | (k, ob) :: r, h => by
    simp only [lastOb]
    by_cases hr : o ∈ r.map (·.1)
    · obtain ⟨x, hx⟩ := lastOb_some hr; rw [hx]; exact ⟨x, rfl⟩
    · rw [lastOb_none hr]
      simp only [List.map_cons, List.mem_cons] at h
      rw [if_pos (h.resolve_right hr).symm]
      exact ⟨ob, rfl⟩
theorem putOs_get : ∀ (wr : List (Nat × Ob)) (h : List Ob), (∀ o ∈ wr.map (·.1), o < h.length) → ∀ i, (putOs h wr)[i]? = match lastOb i wr with | some ob => some ob | none => h[i]?
  | [], h, _, i => rfl
  | (o, ob) :: r, h, hr, i => by
    have ho := hr o (by simp)
    have hp : putO h o ob = h.set o ob := by simp [putO, ho]
    simp only [putOs, hp]
    rw [putOs_get r _ (fun k hk => by rw [List.length_set]; exact hr k (by simp at hk ⊢; exact .inr hk))]
    simp only [lastOb]
    cases hl : lastOb i r with
    | some x => rfl
    | none =>
      simp only
      rw [List.getElem?_set]
      by_cases e : o = i
      · subst e; simp [ho]
      · simp [e]
theorem app_len {st : St} {r : Rec} (h : ∀ o ∈ r.ids, o < st.h.length) : (Rec.app st r).t.length = st.t.length ∧ (Rec.app st r).h.length = st.h.length := ⟨putT_len _ _ _, putOs_len _ _ h⟩
theorem foldS_len (S : Nat → Bool) : ∀ (rs : List Rec) (k : Nat) (st : St), (∀ r ∈ rs, ∀ o ∈ r.ids, o < st.h.length) → (foldS S rs k st).t.length = st.t.length ∧ (foldS S rs k st).h.length = st.h.length
  | [], _, _, _ => ⟨rfl, rfl⟩
  | r :: rs, k, st, h => by
    have ha := app_len (st := st) (h r (by simp))
    simp only [foldS]
    split
    · obtain ⟨h1, h2⟩ := foldS_len S rs (k + 1) (Rec.app st r) (fun r' hr o ho => by rw [ha.2]; exact h r' (by simp [hr]) o ho)
      exact ⟨h1.trans ha.1, h2.trans ha.2⟩
    · exact foldS_len S rs (k + 1) st (fun r' hr => h r' (by simp [hr]))
theorem foldS_t (S S' : Nat → Bool) (d : Nat) : ∀ (rs : List Rec) (k : Nat) (st st' : St), st.t.length = st'.t.length → st.t[d]? = st'.t[d]? → (∀ (i : Nat) (r : Rec), rs[i]? = some r → r.dst = some d → S (k + i) = S' (k + i)) →
    (foldS S rs k st).t[d]? = (foldS S' rs k st').t[d]?
  | [], _, _, _, _, h, _ => h
  | r :: rs, k, st, st', hl, h, hS => by
    simp only [foldS]
    refine foldS_t S S' d rs (k + 1) _ _ ?_ ?_ (fun i r' hr hd => by have := hS (i + 1) r' hr hd; rw [show k + 1 + i = k + (i + 1) by omega]; exact this)
    · split <;> split <;> simp [Rec.app, putT_len, hl]
    · have key : ∀ s : St, s.t.length = st.t.length → s.t[d]? = st.t[d]? → (Rec.app s r).t[d]? = if r.dst = some d ∧ d < st.t.length then some r.v else st.t[d]? := by
        intro s h1 h2
        simp only [Rec.app, putT_get, h1, h2]
      by_cases hd : r.dst = some d
      · have := hS 0 r rfl hd
        simp only [Nat.add_zero] at this
        rw [this]
        split
        · rw [key st rfl rfl, key st' hl.symm h.symm]
        · exact h
      · have hn : ∀ s : St, s.t.length = st.t.length → s.t[d]? = st.t[d]? → (Rec.app s r).t[d]? = st.t[d]? := fun s h1 h2 => by rw [key s h1 h2, if_neg (fun hc => hd hc.1)]
        split <;> split
        · rw [hn st rfl rfl, hn st' hl.symm h.symm]
        · rw [hn st rfl rfl]; exact h
        · rw [hn st' hl.symm h.symm]
        · exact h
theorem foldS_h (S S' : Nat → Bool) (d : Nat) : ∀ (rs : List Rec) (k : Nat) (st st' : St), st.h.length = st'.h.length → (∀ r ∈ rs, ∀ o ∈ r.ids, o < st.h.length) → st.h[d]? = st'.h[d]? → (∀ (i : Nat) (r : Rec), rs[i]? = some r → d ∈ r.ids → S (k + i) = S' (k + i)) →
    (foldS S rs k st).h[d]? = (foldS S' rs k st').h[d]?
  | [], _, _, _, _, _, h, _ => h
  | r :: rs, k, st, st', hl, hr, h, hS => by
    simp only [foldS]
    have ha := (app_len (st := st) (hr r (by simp))).2
    have ha' := (app_len (st := st') (by rw [← hl]; exact hr r (by simp))).2
    refine foldS_h S S' d rs (k + 1) _ _ ?_ ?_ ?_ (fun i r' hr hd => by have := hS (i + 1) r' hr hd; rw [show k + 1 + i = k + (i + 1) by omega]; exact this)
    · split <;> split <;> simp [ha, ha', hl]
    · intro r' hr' o ho
      have := hr r' (by simp [hr']) o ho
      split <;> simp [ha] <;> exact this
    · have key : ∀ s : St, s.h.length = st.h.length → s.h[d]? = st.h[d]? → (Rec.app s r).h[d]? = match lastOb d r.wr with | some ob => some ob | none => st.h[d]? := by
        intro s h1 h2
        simp only [Rec.app]
        rw [putOs_get _ _ (by rw [h1]; exact hr r (by simp)), h2]
      by_cases hd : d ∈ r.ids
      · have := hS 0 r rfl hd
        simp only [Nat.add_zero] at this
        rw [this]
        split
        · rw [key st rfl rfl, key st' hl.symm h.symm]
        · exact h
      · have hn : ∀ s : St, s.h.length = st.h.length → s.h[d]? = st.h[d]? → (Rec.app s r).h[d]? = st.h[d]? := fun s h1 h2 => by rw [key s h1 h2, lastOb_none hd]
        split <;> split
        · rw [hn st rfl rfl, hn st' hl.symm h.symm]
        · rw [hn st rfl rfl]; exact h
        · rw [hn st' hl.symm h.symm]
        · exact h
theorem foldS_t1 (S : Nat → Bool) (d j : Nat) (rj : Rec) (hd : rj.dst = some d) : ∀ (rs : List Rec) (k : Nat) (st : St), rs[j]? = some rj → S (k + j) = true → (∀ (i : Nat) (r : Rec), rs[i]? = some r → r.dst = some d → i = j) → d < st.t.length → (foldS S rs k st).t[d]? = some rj.v
  | [], _, _, h, _, _, _ => by cases h
  | r :: rs, k, st, hj, hS, hu, hl => by
    simp only [foldS]
    cases j with
    | zero =>
      cases hj
      simp only [Nat.add_zero] at hS
      rw [if_pos hS]
      have := foldS_t S (fun _ => false) d rs (k + 1) (Rec.app st rj) (Rec.app st rj) rfl rfl (fun i r' hr hd' => by have := hu (i + 1) r' hr hd'; omega)
      rw [this]
      have nil : ∀ (rs : List Rec) (k : Nat) (s : St), foldS (fun _ => false) rs k s = s := by
        intro rs
        induction rs with
        | nil => intro k s; rfl
        | cons r rs ih => intro k s; simp only [foldS, Bool.false_eq_true, if_false]; exact ih _ _
      rw [nil]
      simp only [Rec.app, putT_get]
      rw [if_pos ⟨hd, hl⟩]
    | succ j =>
      refine foldS_t1 S d j rj hd rs (k + 1) _ hj (by rw [show k + 1 + j = k + (j + 1) by omega]; exact hS) (fun i r' hr hd' => by have := hu (i + 1) r' hr hd'; omega) ?_
      split
      · simpa [Rec.app, putT_len] using hl
      · exact hl
theorem foldS_h1 (S : Nat → Bool) (d j : Nat) (rj : Rec) (ob : Ob) (hd : lastOb d rj.wr = some ob) : ∀ (rs : List Rec) (k : Nat) (st : St), rs[j]? = some rj → S (k + j) = true → (∀ (i : Nat) (r : Rec), rs[i]? = some r → d ∈ r.ids → j < i → S (k + i) = false) →
    (∀ r ∈ rs, ∀ o ∈ r.ids, o < st.h.length) → (foldS S rs k st).h[d]? = some ob
  | [], _, _, h, _, _, _ => by cases h
  | r :: rs, k, st, hj, hS, hu, hl => by
    simp only [foldS]
    have ha := (app_len (st := st) (hl r (by simp))).2
    cases j with
    | zero =>
      cases hj
      simp only [Nat.add_zero] at hS
      rw [if_pos hS]
      have := foldS_h S (fun _ => false) d rs (k + 1) (Rec.app st rj) (Rec.app st rj) rfl (fun r' hr o ho => by rw [ha]; exact hl r' (by simp [hr]) o ho) rfl (fun i r' hr hd' => by have := hu (i + 1) r' hr hd' (by omega); rw [show k + 1 + i = k + (i + 1) by omega]; exact this)
      rw [this]
      have nil : ∀ (rs : List Rec) (k : Nat) (s : St), foldS (fun _ => false) rs k s = s := by
        intro rs
        induction rs with
        | nil => intro k s; rfl
        | cons r rs ih => intro k s; simp only [foldS, Bool.false_eq_true, if_false]; exact ih _ _
      rw [nil]
      simp only [Rec.app]
      rw [putOs_get _ _ (hl rj (by simp)), hd]
    | succ j =>
      refine foldS_h1 S d j rj ob hd rs (k + 1) _ hj (by rw [show k + 1 + j = k + (j + 1) by omega]; exact hS) (fun i r' hr hd' hji => by have := hu (i + 1) r' hr hd' (by omega); rw [show k + 1 + i = k + (i + 1) by omega]; exact this) ?_
      intro r' hr' o ho
      have := hl r' (by simp [hr']) o ho
      split <;> simp [ha] <;> exact this
theorem foldS_take : ∀ (rs : List Rec) (n k : Nat) (st : St), foldS (fun i => decide (i < k + n)) rs k st = (rs.take n).foldl Rec.app st
  | [], n, k, st => by simp [foldS]
  | r :: rs, 0, k, st => by
    have nil : ∀ (rs : List Rec) (k' : Nat) (s : St), k ≤ k' → foldS (fun i => decide (i < k + 0)) rs k' s = s := by
      intro rs
      induction rs with
      | nil => intro k s _; rfl
      | cons r rs ih => intro k' s hk; simp only [foldS]; rw [if_neg (by simp; omega)]; exact ih _ _ (by omega)
    rw [nil _ _ _ (Nat.le_refl _)]
    simp
  | r :: rs, n + 1, k, st => by
    simp only [foldS, List.take_succ_cons, List.foldl_cons]
    rw [if_pos (by simp), show k + (n + 1) = k + 1 + n by omega]
    exact foldS_take rs n (k + 1) _
def closed (ops : Array Oper) (S : Nat → Bool) : Prop := ∀ (j : Nat) (o : Oper), ops[j]? = some o → S j = true → ∀ e ∈ o.after, Region.binds .any e = true → S e.on = true
theorem foldl_bit (acc : List Nat) : ∀ (es : List Edge) (s i : Nat), (es.foldl (fun s e => if Region.binds .any e = true then s ||| 2 ^ e.on ||| acc.getD e.on 0 else s) s).testBit i = true →
    s.testBit i = true ∨ ∃ e ∈ es, Region.binds .any e = true ∧ (e.on = i ∨ (acc.getD e.on 0).testBit i = true)
  | [], s, i, h => .inl h
  | e :: es, s, i, h => by
    simp only [List.foldl_cons] at h
    rcases foldl_bit acc es _ i h with h1 | ⟨e', he', h1⟩
    · by_cases hb : Region.binds .any e = true
      · rw [if_pos hb] at h1
        simp only [Nat.testBit_or, Bool.or_eq_true] at h1
        rcases h1 with (h1 | h1) | h1
        · exact .inl h1
        · rw [Nat.testBit_two_pow] at h1
          exact .inr ⟨e, by simp, hb, .inl (by simpa using h1)⟩
        · exact .inr ⟨e, by simp, hb, .inr h1⟩
      · rw [if_neg hb] at h1; exact .inl h1
    · exact .inr ⟨e', by simp [he'], h1⟩
theorem masks_get : ∀ (l : List Oper) (acc : List Nat) (j : Nat), (masks l acc).length = acc.length + l.length ∧ (j < acc.length → (masks l acc).getD j 0 = acc.getD j 0)
  | [], acc, j => ⟨rfl, fun _ => rfl⟩
  | o :: r, acc, j => by
    simp only [masks]
    obtain ⟨h1, h2⟩ := masks_get r (acc ++ [o.after.toList.foldl (fun s e => if Region.binds .any e = true then s ||| 2 ^ e.on ||| acc.getD e.on 0 else s) 0]) j
    refine ⟨by rw [h1]; simp; omega, fun hj => ?_⟩
    rw [h2 (by simp; omega)]
    simp [List.getD_eq_getElem?_getD, List.getElem?_append_left hj]
theorem masks_bit : ∀ (l : List Oper) (acc : List Nat) (j i : Nat), acc.length ≤ j → j < acc.length + l.length → ((masks l acc).getD j 0).testBit i = true →
    ∃ o, l[j - acc.length]? = some o ∧ ∃ e ∈ o.after, Region.binds .any e = true ∧ (e.on = i ∨ (e.on < j ∧ ((masks l acc).getD e.on 0).testBit i = true))
  | [], acc, j, i, h1, h2, _ => by simp at h2; omega
  | o :: r, acc, j, i, h1, h2, hb => by
    simp only [masks] at hb ⊢
    let m := o.after.toList.foldl (fun s e => if Region.binds .any e = true then s ||| 2 ^ e.on ||| acc.getD e.on 0 else s) 0
    by_cases hj : j = acc.length
    · have h3 := (masks_get r (acc ++ [m]) j).2 (by simp; omega)
      rw [show (masks r (acc ++ [o.after.toList.foldl (fun s e => if Region.binds .any e = true then s ||| 2 ^ e.on ||| acc.getD e.on 0 else s) 0])) = masks r (acc ++ [m]) from rfl, h3] at hb
      have h4 : (acc ++ [m]).getD j 0 = m := by subst hj; simp [List.getD_eq_getElem?_getD]
      rw [h4] at hb
      rcases foldl_bit acc _ _ i hb with h5 | ⟨e, he, h5, h6⟩
      · simp at h5
      · refine ⟨o, by simp [hj], e, by simpa using he, h5, ?_⟩
        rcases h6 with h6 | h6
        · exact .inl h6
        · have hlt : e.on < acc.length := by
            rcases Nat.lt_or_ge e.on acc.length with h' | h'
            · exact h'
            · rw [List.getD_eq_getElem?_getD, List.getElem?_eq_none h'] at h6; simp at h6
          refine .inr ⟨by omega, ?_⟩
          rw [(masks_get r (acc ++ [m]) e.on).2 (by simp; omega)]
          simpa [List.getD_eq_getElem?_getD, List.getElem?_append_left hlt] using h6
    · obtain ⟨o', h3, e, he, h4, h5⟩ := masks_bit r (acc ++ [m]) j i (by simp; omega) (by simp at h2 ⊢; omega) hb
      refine ⟨o', ?_, e, he, h4, h5⟩
      rw [← h3]
      simp only [List.length_append, List.length_singleton]
      rw [show j - acc.length = (j - (acc.length + 1)) + 1 by omega]
      rfl
theorem ord_done {ops : Array Oper} {S : Nat → Bool} (hc : closed ops S) : ∀ (j i : Nat) (oj : Oper), ops[j]? = some oj → (∀ e ∈ oj.after, Region.binds .any e = true → S e.on = true) → ((masks ops.toList []).getD j 0).testBit i = true → S i = true := by
  intro j
  induction j using Nat.strongRecOn with
  | _ j ih =>
    intro i oj hj ha hb
    have hlt : j < ops.toList.length := by
      rcases Nat.lt_or_ge j ops.size with h' | h'
      · simpa using h'
      · rw [Array.getElem?_eq_none h'] at hj; cases hj
    obtain ⟨o, h1, e, he, h2, h3⟩ := masks_bit ops.toList [] j i (Nat.zero_le _) (by simpa using hlt) hb
    have ho : o = oj := by
      have : ops.toList[j]? = some oj := by simpa using hj
      simp only [List.length_nil, Nat.sub_zero] at h1
      rw [this] at h1; cases h1; rfl
    subst ho
    have hs := ha e he h2
    rcases h3 with h3 | ⟨h3, h4⟩
    · rw [← h3]; exact hs
    · have hlt2 : e.on < ops.size := by simp at hlt; omega
      exact ih e.on h3 i ops[e.on] (by simp [hlt2]) (hc e.on _ (by simp [hlt2]) hs) h4
end Go.Proofs.YtejefchehdifhaaGreatDoor.Ev
end
section
set_option linter.unusedVariables false
set_option linter.unusedSimpArgs false
namespace Go.Proofs.YtejefchehdifhaaGreatDoor.Ev
open Go
structure DrawOK (ops : Array Oper) (base : Nat) (recs : List Rec) : Prop where
  len : recs.length = ops.size
  nosel : Region.noSelect ops = true
  edge : ∀ (i : Nat) (oi : Oper), ops[i]? = some oi → ∀ e ∈ oi.after, Region.binds .any e = true → e.on < i
  idlt : ∀ (i : Nat) (ri : Rec), recs[i]? = some ri → ∀ o ∈ ri.ids, o < base + ops.size
  idbase : ∀ (i : Nat) (ri : Rec), recs[i]? = some ri → ∀ o ∈ ri.ids, base ≤ o → o - base = i ∨ ordB (masks ops.toList []) (o - base) i = true
  pair : ∀ (i j : Nat) (oi oj : Oper) (ri rj : Rec), i ≠ j → ops[i]? = some oi → ops[j]? = some oj → recs[i]? = some ri → recs[j]? = some rj →
    ordB (masks ops.toList []) i j = true ∨ ordB (masks ops.toList []) j i = true ∨ ((∀ d, oi.dst = some d → d ∉ oj.looksAt ops) ∧ ∀ o ∈ ri.ids, o ∉ rj.rd ∧ o ∉ rj.ids)
  dst : ∀ (i j : Nat) (oi oj : Oper) (d : Tmp), i ≠ j → ops[i]? = some oi → ops[j]? = some oj → oi.dst = some d → oj.dst ≠ some d
theorem okDraw_spec {ops : Array Oper} {base : Nat} {recs : List Rec} (h : okDraw ops base recs = true) : DrawOK ops base recs := by
  unfold okDraw at h
  simp only [Bool.and_eq_true, beq_iff_eq] at h
  obtain ⟨⟨⟨h1, h2⟩, h3⟩, h4⟩ := h
  have hlen : recs.length = ops.size := by omega
  have hz : ∀ (i : Nat) (oi : Oper) (ri : Rec), ops[i]? = some oi → recs[i]? = some ri → ((oi, ri), i) ∈ (ops.toList.zip recs).zipIdx := by
    intro i oi ri ho hr
    refine List.mem_of_getElem? (i := i) ?_
    rw [List.getElem?_zipIdx]
    have : (ops.toList.zip recs)[i]? = some (oi, ri) := by
      rw [List.getElem?_zip_eq_some]
      exact ⟨by simpa using ho, hr⟩
    rw [this]; simp
  have hex : ∀ (i : Nat) (oi : Oper), ops[i]? = some oi → ∃ ri, recs[i]? = some ri := by
    intro i oi ho
    have : i < recs.length := by
      rw [hlen]
      rcases Nat.lt_or_ge i ops.size with h' | h'
      · exact h'
      · rw [Array.getElem?_eq_none h'] at ho; cases ho
    exact ⟨_, List.getElem?_eq_getElem this⟩
  have hex' : ∀ (i : Nat) (ri : Rec), recs[i]? = some ri → ∃ oi, ops[i]? = some oi := by
    intro i ri hr
    have : i < ops.size := by
      rw [← hlen]
      rcases Nat.lt_or_ge i recs.length with h' | h'
      · exact h'
      · rw [List.getElem?_eq_none h'] at hr; cases hr
    exact ⟨_, Array.getElem?_eq_getElem this⟩
  have hall := List.all_eq_true.1 h4
  have one : ∀ (i : Nat) (oi : Oper) (ri : Rec), ops[i]? = some oi → recs[i]? = some ri → _ := fun i oi ri ho hr => hall _ (hz i oi ri ho hr)
  refine ⟨hlen, h3, fun i oi ho e he hb => ?_, fun i ri hr o hm => ?_, fun i ri hr o hm hb => ?_, fun i j oi oj ri rj hne hoi hoj hri hrj => ?_, fun i j oi oj d hne hoi hoj hd => ?_⟩
  · obtain ⟨ri, hr⟩ := hex i oi ho
    have := one i oi ri ho hr
    simp only [Bool.and_eq_true] at this
    have h5 := (Array.all_eq_true_iff_forall_mem.1 this.1.1) e he
    simpa [hb] using h5
  · obtain ⟨oi, ho⟩ := hex' i ri hr
    have := one i oi ri ho hr
    simp only [Bool.and_eq_true] at this
    have h5 := (List.all_eq_true.1 this.1.2) o hm
    simp only [Bool.and_eq_true, decide_eq_true_eq] at h5
    exact h5.1
  · obtain ⟨oi, ho⟩ := hex' i ri hr
    have := one i oi ri ho hr
    simp only [Bool.and_eq_true] at this
    have h5 := (List.all_eq_true.1 this.1.2) o hm
    simp only [Bool.and_eq_true, Bool.or_eq_true, decide_eq_true_eq, beq_iff_eq] at h5
    rcases h5.2 with (h6 | h6) | h6
    · omega
    · exact .inl h6
    · exact .inr h6
  · have := one i oi ri hoi hri
    simp only [Bool.and_eq_true] at this
    have h5 := (List.all_eq_true.1 this.2) _ (hz j oj rj hoj hrj)
    simp only [Bool.or_eq_true, beq_iff_eq, Bool.and_eq_true] at h5
    rcases h5 with h5 | h5
    · exact absurd h5 hne
    · have h6 := h5.1
      unfold okPair at h6
      simp only [Bool.or_eq_true, Bool.and_eq_true] at h6
      rcases h6 with (h6 | h6) | ⟨h6, h7⟩
      · exact .inl h6
      · exact .inr (.inl h6)
      · refine .inr (.inr ⟨fun d hd => ?_, fun o hm => ?_⟩)
        · rw [hd] at h6
          simpa using h6
        · simp only [Bool.not_eq_true', List.any_eq_false] at h7
          have := h7 o hm
          simp only [Bool.or_eq_true, List.contains_iff_mem, not_or] at this
          exact this
  · obtain ⟨ri, hri⟩ := hex i oi hoi
    obtain ⟨rj, hrj⟩ := hex j oj hoj
    have := one i oi ri hoi hri
    simp only [Bool.and_eq_true] at this
    have h5 := (List.all_eq_true.1 this.2) _ (hz j oj rj hoj hrj)
    simp only [Bool.or_eq_true, beq_iff_eq, Bool.and_eq_true] at h5
    rcases h5 with h5 | h5
    · exact absurd h5 hne
    · have h6 := h5.2
      rw [hd] at h6
      simpa using h6
theorem drew_rep {P : Program} {ext : Nat → Prop} {w0 : World} {own0 : Own0} {st : St} {a : Act} {w : World} (R : Rep P ext w0 own0 st a w) : Rep P ext w0 own0 st a { w with drawn := w.drawn + 1 } := by
  obtain ⟨locs, H, RTm⟩ := R.repT
  obtain ⟨H', lt⟩ := H.grow (w' := { w with drawn := w.drawn + 1 }) (fun _ _ => rfl) (Nat.le_refl _) rfl rfl rfl
  exact ⟨R.defers, R.size, locs, H', fun i x hx => by obtain ⟨u, hu, hr⟩ := RTm i x hx; exact ⟨u, hu, hr.later lt (fun _ _ h => h)⟩⟩
theorem res_rep {P : Program} {ext : Nat → Prop} {w0 : World} {own0 : Own0} {t : List TV} {h : List Ob} {a : Act} {w : World} (R : Rep P ext w0 own0 ⟨t, h⟩ a w) (n : Nat) : Rep P ext w0 own0 ⟨t, h ++ List.replicate n .rs⟩ a w := by
  obtain ⟨locs, H, RTm⟩ := R.repT
  have hget : ∀ (o : Nat) (ob : Ob), (h ++ List.replicate n Ob.rs)[o]? = some ob → h[o]? = some ob ∨ (h.length ≤ o ∧ ob = .rs) := by
    intro o ob ho
    by_cases hl : o < h.length
    · rw [List.getElem?_append_left hl] at ho; exact .inl ho
    · rw [List.getElem?_append_right (by omega), List.getElem?_replicate] at ho
      split at ho
      · cases ho; exact .inr ⟨by omega, rfl⟩
      · cases ho
  have hown : ∀ b, ownB locs (h ++ List.replicate n Ob.rs) b → ownB locs h b := by
    rintro b ⟨o, l, d, ob, h1, h2, h3⟩
    rcases hget o ob h1 with h1 | ⟨_, rfl⟩
    · exact ⟨o, l, d, ob, h1, h2, h3⟩
    · cases h2
  have lt : Later w (Bar ext locs h) w (Bar ext locs (h ++ List.replicate n Ob.rs)) := ⟨fun _ _ _ => rfl, fun b _ hb => hb.elim .inl (fun hb => .inr (hown b hb))⟩
  refine ⟨R.defers, R.size, locs, ⟨fun o ho => H.len o (by simp at ho; show h.length ≤ o; omega), fun o ob ho => ?_, fun o o' l l' ob ob' d d' hne ho ho' hlv hlv' => ?_, fun b hb ho => H.extOwn b hb (hown b ho), H.extlt, fun b hb ho => H.ownOld b hb (hown b ho), H.since, H.base, H.pins⟩, fun i x hx => ?_⟩
  · rcases hget o ob ho with h1 | ⟨h1, rfl⟩
    · rcases H.ob o ob h1 with h2 | h2 | ⟨l, h2, h3⟩
      · exact .inl h2
      · exact .inr (.inl h2)
      · exact .inr (.inr ⟨l, h2, h3.later lt (fun _ _ h => h) (fun _ _ _ => rfl)⟩)
    · exact .inr (.inl ⟨rfl, H.len o h1⟩)
  · rcases hget o ob ho with h1 | ⟨_, rfl⟩
    · rcases hget o' ob' ho' with h2 | ⟨_, rfl⟩
      · exact H.apart o o' l l' ob ob' d d' hne h1 h2 hlv hlv'
      · cases hlv'
    · cases hlv
  · obtain ⟨u, hu, hr⟩ := RTm i x hx
    exact ⟨u, hu, hr.later lt (fun _ _ h => h)⟩
def left (listed : Array Bool) : Nat := (listed.toList.filter (fun b => !b)).length
theorem left_set {listed : Array Bool} {i : Nat} (hi : i < listed.size) (h : listed[i]? = some false) : left (listed.setIfInBounds i true) + 1 = left listed := by
  have key : ∀ (l : List Bool) (i : Nat), l[i]? = some false → ((l.set i true).filter (fun b => !b)).length + 1 = (l.filter (fun b => !b)).length := by
    intro l
    induction l with
    | nil => intro i h; simp at h
    | cons b l ih =>
      intro i h
      cases i with
      | zero => cases h; simp
      | succ i =>
        have := ih i h
        cases b <;> simp at this ⊢ <;> omega
  unfold left
  rw [Array.toList_setIfInBounds]
  exact key listed.toList i (by simpa using h)
theorem foldS_congr {S S' : Nat → Bool} : ∀ (rs : List Rec) (k : Nat) (st : St), (∀ i, i < rs.length → S (k + i) = S' (k + i)) → foldS S rs k st = foldS S' rs k st
  | [], _, _, _ => rfl
  | r :: rs, k, st, h => by
    simp only [foldS]
    have h0 := h 0 (by simp)
    simp only [Nat.add_zero] at h0
    rw [h0]
    exact foldS_congr rs (k + 1) _ (fun i hi => by have := h (i + 1) (by simp; omega); rw [show k + 1 + i = k + (i + 1) by omega]; exact this)
theorem foldS_put {S S' : Nat → Bool} {recs : List Rec} {st0 : St} {i : Nat} {r : Rec} (hr : recs[i]? = some r) (hS : S i = false) (hS' : S' i = true) (hne : ∀ k, k ≠ i → S' k = S k) (hids : ∀ r ∈ recs, ∀ o ∈ r.ids, o < st0.h.length)
    (hdst : ∀ (k : Nat) (rk : Rec) (d : Tmp), recs[k]? = some rk → rk.dst = some d → r.dst = some d → k = i) (hw : ∀ (k : Nat) (rk : Rec) (o : Nat), recs[k]? = some rk → o ∈ rk.ids → o ∈ r.ids → i < k → S k = false) :
    foldS S' recs 0 st0 = Rec.app (foldS S recs 0 st0) r := by
  obtain ⟨l1, l2⟩ := foldS_len S recs 0 st0 hids
  obtain ⟨l3, l4⟩ := foldS_len S' recs 0 st0 hids
  have hri : ∀ o ∈ r.ids, o < (foldS S recs 0 st0).h.length := by rw [l2]; exact hids r (List.mem_of_getElem? hr)
  obtain ⟨l5, l6⟩ := app_len hri
  have et : (foldS S' recs 0 st0).t = (Rec.app (foldS S recs 0 st0) r).t := by
    apply List.ext_getElem?
    intro d
    simp only [Rec.app, putT_get]
    by_cases hd : r.dst = some d ∧ d < (foldS S recs 0 st0).t.length
    · rw [if_pos hd]
      exact foldS_t1 S' d i r hd.1 recs 0 st0 hr (by simpa using hS') (fun k rk hk hkd => hdst k rk d hk hkd hd.1) (by rw [← l1]; exact hd.2)
    · rw [if_neg hd]
      by_cases hl : d < st0.t.length
      · refine foldS_t S' S d recs 0 st0 st0 rfl rfl (fun k rk hk hkd => ?_)
        rw [Nat.zero_add]
        refine hne k ?_
        rintro rfl
        rw [hr] at hk; cases hk
        exact hd ⟨hkd, by rw [l1]; exact hl⟩
      · rw [List.getElem?_eq_none (by omega), List.getElem?_eq_none (by omega)]
  have eh : (foldS S' recs 0 st0).h = (Rec.app (foldS S recs 0 st0) r).h := by
    apply List.ext_getElem?
    intro o
    simp only [Rec.app]
    rw [putOs_get _ _ hri]
    by_cases ho : o ∈ r.ids
    · obtain ⟨ob, hob⟩ := lastOb_some ho
      rw [hob]
      exact foldS_h1 S' o i r ob hob recs 0 st0 hr (by simpa using hS') (fun k rk hk hko hik => by rw [Nat.zero_add, hne k (by omega)]; exact hw k rk o hk hko ho hik) hids
    · rw [lastOb_none ho]
      refine foldS_h S' S o recs 0 st0 st0 rfl hids rfl (fun k rk hk hko => ?_)
      rw [Nat.zero_add]
      refine hne k ?_
      rintro rfl
      rw [hr] at hk; cases hk
      exact ho hko
  cases hq : foldS S' recs 0 st0
  cases hq2 : Rec.app (foldS S recs 0 st0) r
  rw [hq, hq2] at et eh
  simp only at et eh
  rw [et, eh]
section
variable {P : Program} {ops : Array Oper} {base : Nat} {recs : List Rec} {st0 : St} {ext : Nat → Prop} {w0 : World} {own0 : Own0} {Q : Exit → Act → World → Prop}
theorem draw_any (pn : Option (Nat × FV)) (D : DrawOK ops base recs) (hb : st0.h.length = base + ops.size) (hrs : ∀ i, i < ops.size → st0.h[base + i]? = some .rs)
    (hT : ∀ (i : Nat) (r : Rec), recs[i]? = some r → AllTold P ops base pn i ((recs.take i).foldl Rec.app st0) r) (hpl : ∀ i0 x, pn = some (i0, x) → i0 < ops.size)
    (hQ : pn = none → ∀ a w, Rep P ext w0 own0 (recs.foldl Rec.app st0) a w → Q .normal a w)
    (hX : ∀ i0 x, pn = some (i0, x) → ∀ (S : Nat → Bool) (v : Value) (a : Act) (w : World), Rep P ext w0 own0 ⟨(foldS S recs 0 st0).t ++ [.one (.fz x)], shH (foldS S recs 0 st0).h⟩ { a with tmps := a.tmps.push v } w → Q (.panic [{ v, recovered := false }]) a w) :
    ∀ (fuel : Nat) (listed : Array Bool) (a : Act) (w : World), left listed = fuel → listed.size = ops.size → closed ops (fun i => listed.getD i false) → (∀ i0 x, pn = some (i0, x) → listed.getD i0 false = false) → Rep P ext w0 own0 (foldS (fun i => listed.getD i false) recs 0 st0) a w → wpAny P .any ops Q fuel listed a w := by
  have hids : ∀ r ∈ recs, ∀ o ∈ r.ids, o < st0.h.length := by
    intro r hr o ho
    obtain ⟨i, hi, hir⟩ := List.getElem_of_mem hr
    rw [hb]
    exact D.idlt i r (by rw [← hir]; exact List.getElem?_eq_getElem hi) o ho
  have rdy : ∀ (listed : Array Bool) (i : Nat), i ∈ Region.ready .any ops listed → listed[i]? = some false := by
    intro listed i hi
    have := (mem_ready.1 hi).1
    rw [Array.getD_eq_getD_getElem?] at this
    cases h : listed[i]? with
    | none => rw [h] at this; cases this
    | some b => rw [h] at this; simp only [Option.getD_some] at this; rw [this]
  have done : ∀ (listed : Array Bool), listed.size = ops.size → Region.ready .any ops listed = [] → ∀ i, i < ops.size → listed.getD i false = true := by
    intro listed hsz hr i
    induction i using Nat.strongRecOn with
    | _ i ih =>
      intro hi
      cases hl : listed.getD i false with
      | true => rfl
      | false =>
        exfalso
        have hin : i ∈ Region.ready .any ops listed := by
          rw [mem_ready]
          refine ⟨?_, ops[i], by simp [hi], fun e he hbd => ?_⟩
          · have hi2 : i < listed.size := by omega
            simp [hi2] at hl ⊢
            exact hl
          · have h1 := D.edge i ops[i] (by simp [hi]) e he hbd
            exact ih e.on h1 (by omega)
        rw [hr] at hin; cases hin
  have fin : ∀ (listed : Array Bool) (a : Act) (w : World), listed.size = ops.size → (∀ i0 x, pn = some (i0, x) → listed.getD i0 false = false) → Region.ready .any ops listed = [] → Rep P ext w0 own0 (foldS (fun i => listed.getD i false) recs 0 st0) a w → Q .normal a w := by
    intro listed a w hsz hpn hr R
    have hall := done listed hsz hr
    have hno : pn = none := by
      cases hq : pn with
      | none => rfl
      | some q =>
        obtain ⟨i0, x⟩ := q
        have h1 := hall i0 (hpl i0 x hq)
        rw [hpn i0 x hq] at h1
        cases h1
    have he : foldS (fun i => listed.getD i false) recs 0 st0 = recs.foldl Rec.app st0 := by
      rw [foldS_congr (S' := fun i => decide (i < 0 + recs.length)) recs 0 st0 (fun i hi => by
        have := hall i (by rw [← D.len]; exact hi)
        simp only [Nat.zero_add]
        rw [this]
        simp [hi])]
      rw [foldS_take, List.take_length]
    rw [he] at R
    exact hQ hno a w R
  intro fuel
  induction fuel with
  | zero =>
    intro listed a w hl hsz hc hpn R
    have hr : Region.ready .any ops listed = [] := by
      cases hq : Region.ready .any ops listed with
      | nil => rfl
      | cons i r =>
        have h1 := rdy listed i (by rw [hq]; simp)
        have hi : i < listed.size := by
          rcases Nat.lt_or_ge i listed.size with h' | h'
          · exact h'
          · rw [Array.getElem?_eq_none h'] at h1; cases h1
        have := left_set hi h1
        omega
    exact ⟨hr, fin listed a w hsz hpn hr R⟩
  | succ fuel ih =>
    intro listed a w hl hsz hc hpn R
    refine ⟨fun hr => fin listed a w hsz hpn hr R, fun i hi => ?_⟩
    have hlf := rdy listed i hi
    obtain ⟨_, o, ho, hpre⟩ := mem_ready.1 hi
    have hil : i < listed.size := by
      rcases Nat.lt_or_ge i listed.size with h' | h'
      · exact h'
      · rw [Array.getElem?_eq_none h'] at hlf; cases hlf
    have hSi : listed.getD i false = false := by rw [Array.getD_eq_getD_getElem?, hlf]; rfl
    obtain ⟨r, hr⟩ : ∃ r, recs[i]? = some r := ⟨_, List.getElem?_eq_getElem (by rw [D.len, ← hsz]; exact hil)⟩
    obtain ⟨o', ho', hd, htoldA, htoldB⟩ := hT i r hr
    rw [ho] at ho'; cases ho'
    have opOf : ∀ (k : Nat) (rk : Rec), recs[k]? = some rk → ∃ ok, ops[k]? = some ok ∧ rk.dst = ok.dst := fun k rk hk => by
      obtain ⟨ok, h1, h2, _⟩ := hT k rk hk; exact ⟨ok, h1, h2⟩
    have ordc : ∀ (k : Nat), k ≠ i → (ordB (masks ops.toList []) k i = true ∨ ordB (masks ops.toList []) i k = true) → (∃ ok, ops[k]? = some ok) → listed.getD k false = decide (k < i) := by
      intro k hki hk ⟨ok, hok⟩
      rcases hk with hk | hk
      · unfold ordB at hk
        simp only [Bool.and_eq_true, decide_eq_true_eq] at hk
        rw [ord_done hc i k o ho hpre hk.2]
        simp [hk.1]
      · unfold ordB at hk
        simp only [Bool.and_eq_true, decide_eq_true_eq] at hk
        cases hS : listed.getD k false with
        | false => simp; omega
        | true =>
          have := ord_done hc k i ok hok (hc k ok hok hS) hk.2
          rw [hSi] at this; cases this
    have hcan : (recs.take i).foldl Rec.app st0 = foldS (fun k => decide (k < i)) recs 0 st0 := by
      have := foldS_take recs i 0 st0
      simp only [Nat.zero_add] at this
      exact this.symm
    rw [hcan] at htoldA htoldB
    obtain ⟨lt1, lh1⟩ := foldS_len (fun k => listed.getD k false) recs 0 st0 hids
    obtain ⟨lt2, lh2⟩ := foldS_len (fun k => decide (k < i)) recs 0 st0 hids
    have tag : ∀ d, d ∈ o.looksAt ops → (foldS (fun k => listed.getD k false) recs 0 st0).t[d]? = (foldS (fun k => decide (k < i)) recs 0 st0).t[d]? := by
      intro d hdl
      refine foldS_t _ _ d recs 0 st0 st0 rfl rfl (fun k rk hk hkd => ?_)
      rw [Nat.zero_add]
      by_cases hki : k = i
      · subst hki; simp only [hSi]; simp
      · obtain ⟨ok, hok, hkd'⟩ := opOf k rk hk
        rcases D.pair k i ok o rk r hki hok ho hk hr with h1 | h1 | ⟨h1, _⟩
        · exact ordc k hki (.inl h1) ⟨ok, hok⟩
        · exact ordc k hki (.inr h1) ⟨ok, hok⟩
        · exact absurd hdl (h1 d (by rw [← hkd']; exact hkd))
    have evag : ∀ x ∈ o.op.operands, ev (foldS (fun k => listed.getD k false) recs 0 st0).t x = ev (foldS (fun k => decide (k < i)) recs 0 st0).t x := by
      intro x hx
      cases x with
      | tmp d =>
        have := tag d (List.mem_append_left _ (List.mem_filterMap.2 ⟨.tmp d, by simpa using hx, rfl⟩))
        simp only [ev, List.getD_eq_getElem?_getD, this]
      | _ => rfl
    have hag : ∀ q ∈ r.rd, (foldS (fun k => listed.getD k false) recs 0 st0).h[q]? = (foldS (fun k => decide (k < i)) recs 0 st0).h[q]? := by
      intro q hq
      refine foldS_h _ _ q recs 0 st0 st0 rfl hids rfl (fun k rk hk hkq => ?_)
      rw [Nat.zero_add]
      by_cases hki : k = i
      · subst hki; simp only [hSi]; simp
      · obtain ⟨ok, hok, _⟩ := opOf k rk hk
        rcases D.pair k i ok o rk r hki hok ho hk hr with h1 | h1 | ⟨_, h1⟩
        · exact ordc k hki (.inl h1) ⟨ok, hok⟩
        · exact ordc k hki (.inr h1) ⟨ok, hok⟩
        · exact absurd hq (h1 q hkq).1
    have hfresh : freshO (foldS (fun k => listed.getD k false) recs 0 st0).h (base + i) := by
      right
      have nil : ∀ (rs : List Rec) (k : Nat) (s : St), foldS (fun _ => false) rs k s = s := by
        intro rs
        induction rs with
        | nil => intro k s; rfl
        | cons r rs ih => intro k s; simp only [foldS, Bool.false_eq_true, if_false]; exact ih _ _
      rw [foldS_h (fun k => listed.getD k false) (fun _ => false) (base + i) recs 0 st0 st0 rfl hids rfl (fun k rk hk hkq => by
        rw [Nat.zero_add]
        by_cases hki : k = i
        · subst hki; exact hSi
        · obtain ⟨ok, hok, _⟩ := opOf k rk hk
          rcases D.idbase k rk hk _ hkq (by omega) with h1 | h1
          · exact absurd (by omega) hki
          · rw [show base + i - base = i by omega] at h1
            have := ordc k hki (.inr h1) ⟨ok, hok⟩
            rw [this]
            unfold ordB at h1
            simp only [Bool.and_eq_true, decide_eq_true_eq] at h1
            simp; omega), nil]
      exact hrs i (by omega)
    have heq := foldS_put (S := fun k => listed.getD k false) (S' := fun k => (listed.setIfInBounds i true).getD k false) (st0 := st0) hr hSi (by simp [hil]) (fun k hk => getD_set_ne false (fun e => hk e.symm)) hids
      (fun k rk d hk hkd hrd => by
        by_cases hki : k = i
        · exact hki
        · obtain ⟨ok, hok, hkd'⟩ := opOf k rk hk
          exact absurd (by rw [← hd]; exact hrd) (D.dst k i ok o d hki hok ho (by rw [← hkd']; exact hkd)))
      (fun k rk q hk hkq hrq hik => by
        have hki : k ≠ i := by omega
        obtain ⟨ok, hok, _⟩ := opOf k rk hk
        rcases D.pair k i ok o rk r hki hok ho hk hr with h1 | h1 | ⟨_, h1⟩
        · unfold ordB at h1
          simp only [Bool.and_eq_true, decide_eq_true_eq] at h1
          omega
        · have := ordc k hki (.inr h1) ⟨ok, hok⟩
          rw [this]; simp; omega
        · exact absurd hrq (h1 q hkq).2)
    have hcl : closed ops (fun k => (listed.setIfInBounds i true).getD k false) := by
      intro j oj hj hSj e he hbd
      by_cases hji : j = i
      · subst hji
        rw [ho] at hj; cases hj
        exact getD_set_true (hpre e he hbd)
      · have : listed.getD j false = true := by
          have h1 := getD_set_ne (listed := listed) false (fun e => hji e.symm : i ≠ j)
          exact h1.symm.trans hSj
        exact getD_set_true (hc j oj hj this e he hbd)
    have next : (∀ i0 x, pn = some (i0, x) → i0 ≠ i) → ∀ (a' : Act) (w' : World), Rep P ext w0 own0 (Rec.app (foldS (fun k => listed.getD k false) recs 0 st0) r) a' w' → wpAny P .any ops Q fuel (listed.setIfInBounds i true) a' w' := by
      intro hne a' w' R'
      rw [← heq] at R'
      exact ih _ a' w' (by have := left_set hil hlf; omega) (by simpa using hsz) hcl (fun i0 x e => (getD_set_ne false (fun e' => hne i0 x e e'.symm)).trans (hpn i0 x e)) R'
    have grd : ∀ (j : Nat) (want b : Bool) (d : Tmp), o.guard = some (j, want) → (ops[j]?).bind (·.dst) = some d → (foldS (fun k => decide (k < i)) recs 0 st0).t.getD d .und = .one (.kb b) → yielded ops a.tmps j = some b := by
      intro j want b d hg hjd hv
      have hdl : d ∈ o.looksAt ops := by
        unfold Oper.looksAt
        rw [hg]
        simp [hjd]
      have ht := tag d hdl
      rw [List.getD_eq_getElem?_getD, ← ht] at hv
      obtain ⟨locs, H, RTm⟩ := R.repT
      cases hq : (foldS (fun k => listed.getD k false) recs 0 st0).t[d]? with
      | none => rw [hq] at hv; cases hv
      | some x =>
        rw [hq] at hv
        simp only [Option.getD_some] at hv
        subst hv
        obtain ⟨u, hu, hra⟩ := RTm d _ hq
        cases hra
        unfold yielded
        rw [hjd]
        simp [hu]
    have grdU : ∀ (j : Nat) (want : Bool) (d : Tmp), o.guard = some (j, want) → (ops[j]?).bind (·.dst) = some d → (foldS (fun k => decide (k < i)) recs 0 st0).t.getD d .und = .tup [] → yielded ops a.tmps j = none := by
      intro j want d hg hjd hv
      have hdl : d ∈ o.looksAt ops := by
        unfold Oper.looksAt
        rw [hg]
        simp [hjd]
      have ht := tag d hdl
      rw [List.getD_eq_getElem?_getD, ← ht] at hv
      obtain ⟨locs, H, RTm⟩ := R.repT
      cases hq : (foldS (fun k => listed.getD k false) recs 0 st0).t[d]? with
      | none => rw [hq] at hv; cases hv
      | some x =>
        rw [hq] at hv
        simp only [Option.getD_some] at hv
        subst hv
        obtain ⟨u, hu, vs, rfl, _, _⟩ := RTm d _ hq
        unfold yielded
        rw [hjd]
        simp [hu]
    have wnt : (∀ j want d, o.guard = some (j, want) → (ops[j]?).bind (·.dst) = some d → (foldS (fun k => decide (k < i)) recs 0 st0).t.getD d .und = .one (.kb want)) → (∀ j want, o.guard = some (j, want) → ∃ d, (ops[j]?).bind (·.dst) = some d) → Region.wanted o (yielded ops a.tmps) = true := by
      intro hg1 hg2
      unfold Region.wanted
      cases hg : o.guard with
      | none => rfl
      | some gw =>
        obtain ⟨j, want⟩ := gw
        obtain ⟨d, hjd⟩ := hg2 j want hg
        have := grd j want want d hg hjd (hg1 j want d hg hjd)
        simp only
        rw [this]
        simp
    unfold wpOp
    simp only [ho]
    cases hsk : skipB ops pn i with
    | true =>
      cases hq : pn with
      | none => rw [hq] at hsk; cases hsk
      | some q =>
        obtain ⟨i0, x⟩ := q
        by_cases e : i0 = i
        · subst e
          obtain ⟨hx, hg1, hg2⟩ := htoldB x hq
          rw [if_pos (wnt hg1 hg2)]
          left
          exact hx ext w0 own0 _ _ a w _ Q (by rw [lt1, lt2]) evag hag R (fun v w' R' => hX i0 x hq _ v a w' R')
        · exfalso
          rw [hq] at hsk
          simp only [skipB, Bool.or_eq_true, beq_iff_eq, e, false_or] at hsk
          unfold ordB at hsk
          simp only [Bool.and_eq_true, decide_eq_true_eq] at hsk
          have h1 := ord_done hc i i0 o ho hpre hsk.2
          rw [hpn i0 x hq] at h1
          cases h1
    | false =>
    have hne : ∀ i0 x, pn = some (i0, x) → i0 ≠ i := fun i0 x hq e => by
      rw [hq] at hsk
      simp [skipB, e] at hsk
    obtain ⟨_, htold⟩ := htoldA hsk
    rcases htold with ⟨hk, hg1, hg2⟩ | ⟨hv, hwr, hrd, j, want, d, hg, hjd, hgv⟩
    · rw [if_pos (wnt hg1 hg2)]
      left
      refine Oper.wp_mono (fun a' w' R' => next hne a' w' ?_) (hk ext w0 own0 _ _ a w Q (by rw [lt1, lt2]) evag hag hfresh R)
      have : Rec.app (foldS (fun k => listed.getD k false) recs 0 st0) r = ⟨putT (foldS (fun k => listed.getD k false) recs 0 st0).t o.dst r.v, putOs (foldS (fun k => listed.getD k false) recs 0 st0).h r.wr⟩ := by rw [← hd]; rfl
      rw [this]; exact R'
    · have hw : Region.wanted o (yielded ops a.tmps) = false := by
        unfold Region.wanted
        rw [hg]
        simp only
        rcases hgv with hgv | hgv
        · rw [grd j want (!want) d hg hjd hgv]
          cases want <;> rfl
        · rw [grdU j want d hg hjd hgv]
          rfl
      rw [if_neg (by rw [hw]; simp)]
      refine next hne _ w ?_
      have := R.skipped o.dst
      have e1 : Rec.app (foldS (fun k => listed.getD k false) recs 0 st0) r = ⟨putT (foldS (fun k => listed.getD k false) recs 0 st0).t o.dst (.tup []), (foldS (fun k => listed.getD k false) recs 0 st0).h⟩ := by
        unfold Rec.app
        rw [hd, hv, hwr]
        rfl
      rw [e1]; exact this
end
theorem lastOb_mem {o : Nat} {ob : Ob} : ∀ {wr : List (Nat × Ob)}, lastOb o wr = some ob → (o, ob) ∈ wr
  | [], h => by cases h
  | (k, x) :: r, h => by
    simp only [lastOb] at h
    split at h
    · rename_i y hy
      cases h
      exact List.mem_cons_of_mem _ (lastOb_mem hy)
    · split at h
      · cases h; subst_vars; simp
      · cases h
theorem foldS_mem {S : Nat → Bool} {o : Nat} {ob : Ob} : ∀ (rs : List Rec) (k : Nat) (st : St), (∀ r ∈ rs, ∀ o ∈ r.ids, o < st.h.length) → (foldS S rs k st).h[o]? = some ob → st.h[o]? = some ob ∨ ∃ r ∈ rs, (o, ob) ∈ r.wr
  | [], k, st, _, h => .inl h
  | r :: rs, k, st, hi, h => by
    simp only [foldS] at h
    have ha := (app_len (st := st) (hi r (by simp))).2
    split at h
    · rcases foldS_mem rs (k + 1) _ (fun r' hr' q hq => by rw [ha]; exact hi r' (by simp [hr']) q hq) h with h1 | ⟨r', h1, h2⟩
      · simp only [Rec.app] at h1
        rw [putOs_get _ _ (hi r (by simp))] at h1
        split at h1
        · rename_i x hx
          cases h1
          exact .inr ⟨r, by simp, lastOb_mem hx⟩
        · exact .inl h1
      · exact .inr ⟨r', by simp [h1], h2⟩
    · rcases foldS_mem rs (k + 1) st (fun r' hr' q hq => hi r' (by simp [hr']) q hq) h with h1 | ⟨r', h1, h2⟩
      · exact .inl h1
      · exact .inr ⟨r', by simp [h1], h2⟩
theorem shO_eq {a b : Ob} (h : shB a = shB b) : shO a = shO b := by
  have hm : ∀ cs : List AV, (cs.map fun _ => AV.und) = List.replicate cs.length AV.und := fun cs => by
    rw [List.eq_replicate_iff]
    exact ⟨by simp, fun x hx => by simp at hx; exact hx.2.symm⟩
  cases a <;> cases b <;> first | rfl | (simp only [shB] at h; cases h; done) | skip
  simp only [shB, Option.some.injEq, Prod.mk.injEq] at h
  simp only [shO, h.1, hm, h.2]
theorem RepH.less {P : Program} {ext : Nat → Prop} {w0 : World} {own0 : Own0} {locs : Nat → Option Loc} {h h' : List Ob} {w : World} (H : RepH P ext w0 own0 locs h w) (hl : h'.length = h.length) (hp : ∀ (o : Nat) (ob : Ob), h'[o]? = some ob → ob = .no ∨ h[o]? = some ob) :
    RepH P ext w0 own0 locs h' w ∧ Later w (Bar ext locs h) w (Bar ext locs h') := by
  have hlv : ∀ (o : Nat) (ob : Ob), h'[o]? = some ob → ob.live = true → h[o]? = some ob := fun o ob ho hl => by
    rcases hp o ob ho with rfl | h1
    · cases hl
    · exact h1
  have hown : ∀ b, ownB locs h' b → ownB locs h b := by
    rintro b ⟨o, l, d, ob, h1, h2, h3⟩
    exact ⟨o, l, d, ob, hlv o ob h1 h2, h2, h3⟩
  have lt : Later w (Bar ext locs h) w (Bar ext locs h') := ⟨fun _ _ _ => rfl, fun b _ hb => hb.elim .inl (fun hb => .inr (hown b hb))⟩
  refine ⟨⟨fun o ho => H.len o (by omega), fun o ob ho => ?_, fun o o' l l' ob ob' d d' hne ho ho' h1 h2 => H.apart o o' l l' ob ob' d d' hne (hlv o ob ho h1) (hlv o' ob' ho' h2) h1 h2, fun b hb ho => H.extOwn b hb (hown b ho), H.extlt, fun b hb ho => H.ownOld b hb (hown b ho), H.since, H.base, H.pins⟩, lt⟩
  rcases hp o ob ho with rfl | h1
  · exact .inl rfl
  · rcases H.ob o ob h1 with h2 | h2 | ⟨l, h2, h3⟩
    · exact .inl h2
    · exact .inr (.inl h2)
    · exact .inr (.inr ⟨l, h2, h3.later lt (fun _ _ h => h) (fun _ _ _ => rfl)⟩)
theorem undD_get (ops : Array Oper) (t : List TV) (d : Nat) : (undD ops t)[d]? = (t[d]?).map fun v => if ops.toList.any (fun o => o.dst == some d) = true then .und else v := by
  simp only [undD, List.getElem?_map, List.getElem?_zipIdx]
  cases t[d]? <;> simp
theorem pan_weak {P : Program} {ops : Array Oper} {recs : List Rec} {st : St} {ext : Nat → Prop} {w0 : World} {own0 : Own0} (hids : ∀ r ∈ recs, ∀ o ∈ r.ids, o < st.h.length + ops.size) (hds : ∀ r ∈ recs, ∃ o ∈ ops.toList, r.dst = o.dst)
    (hok : okPan st.h.length st.h recs = true) (S : Nat → Bool) {x : TV} {a : Act} {w : World} (R : Rep P ext w0 own0 ⟨(foldS S recs 0 ⟨st.t, st.h ++ List.replicate ops.size .rs⟩).t ++ [x], shH (foldS S recs 0 ⟨st.t, st.h ++ List.replicate ops.size .rs⟩).h⟩ a w) :
    Rep P ext w0 own0 ⟨(panSt ops st).t ++ [x], (panSt ops st).h⟩ a w := by
  obtain ⟨locs, H, RTm⟩ := R.repT
  have hids' : ∀ r ∈ recs, ∀ o ∈ r.ids, o < (⟨st.t, st.h ++ List.replicate ops.size .rs⟩ : St).h.length := fun r hr o ho => by simpa using hids r hr o ho
  obtain ⟨l1, l2⟩ := foldS_len S recs 0 ⟨st.t, st.h ++ List.replicate ops.size .rs⟩ hids'
  simp only at l1
  simp only [List.length_append, List.length_replicate] at l2
  obtain ⟨H1, lt⟩ := H.less (h' := (panSt ops st).h) (by simp [panSt, shH_len, l2]) (fun o ob ho => by
    simp only [panSt] at ho
    by_cases hlt : o < st.h.length
    · rw [List.getElem?_append_left (by rw [shH_len]; exact hlt), shH_get, List.getElem?_eq_getElem hlt] at ho
      cases ho
      right
      simp only
      rw [shH_get]
      have hlt2 : o < (foldS S recs 0 ⟨st.t, st.h ++ List.replicate ops.size .rs⟩).h.length := by rw [l2]; omega
      rw [List.getElem?_eq_getElem hlt2]
      simp only [Option.map_some, Option.some.injEq]
      rcases foldS_mem (S := S) recs 0 _ hids' (List.getElem?_eq_getElem hlt2) with h1 | ⟨r, h1, h2⟩
      · simp only at h1
        rw [List.getElem?_append_left hlt, List.getElem?_eq_getElem hlt] at h1
        exact congrArg shO (Option.some.inj h1).symm
      · unfold okPan at hok
        have h3 := List.all_eq_true.1 (List.all_eq_true.1 hok r h1) _ h2
        simp only [Bool.or_eq_true, decide_eq_true_eq, beq_iff_eq] at h3
        rcases h3 with h3 | h3
        · omega
        · rw [shO_eq h3]
          simp [getO, List.getD_eq_getElem?_getD, List.getElem?_eq_getElem hlt]
    · rw [List.getElem?_append_right (by rw [shH_len]; omega), List.getElem?_replicate] at ho
      split at ho
      · cases ho; exact .inl rfl
      · cases ho)
  refine ⟨R.defers, by rw [R.size]; simp [panSt, undD, l1], locs, H1, fun i y hy => ?_⟩
  have hfl : (foldS S recs 0 ⟨st.t, st.h ++ List.replicate ops.size .rs⟩).t.length = (undD ops st.t).length := by rw [l1]; simp [undD]
  simp only [panSt] at hy
  by_cases hi : i < (undD ops st.t).length
  · rw [List.getElem?_append_left hi, undD_get, Option.map_eq_some_iff] at hy
    obtain ⟨z, hz, rfl⟩ := hy
    have hi2 : i < (foldS S recs 0 ⟨st.t, st.h ++ List.replicate ops.size .rs⟩).t.length := by omega
    split
    · obtain ⟨u, hu, _⟩ := RTm i _ (by simp only; rw [List.getElem?_append_left hi2]; exact List.getElem?_eq_getElem hi2)
      exact ⟨u, hu, trivial⟩
    · rename_i hany
      have nil : ∀ (rs : List Rec) (k : Nat) (s : St), foldS (fun _ => false) rs k s = s := by
        intro rs
        induction rs with
        | nil => intro k s; rfl
        | cons r rs ih => intro k s; simp only [foldS, Bool.false_eq_true, if_false]; exact ih _ _
      have h1 := foldS_t S (fun _ => false) i recs 0 ⟨st.t, st.h ++ List.replicate ops.size .rs⟩ ⟨st.t, st.h ++ List.replicate ops.size .rs⟩ rfl rfl (fun k r hk hd => by
        exfalso
        obtain ⟨o, ho, hdo⟩ := hds r (List.mem_of_getElem? hk)
        refine hany (List.any_eq_true.2 ⟨o, ho, ?_⟩)
        rw [← hdo, hd]; simp)
      rw [nil] at h1
      simp only at h1
      obtain ⟨u, hu, hr⟩ := RTm i z (by simp only; rw [List.getElem?_append_left hi2, h1]; exact hz)
      exact ⟨u, hu, hr.later lt (fun _ _ h => h)⟩
  · rw [List.getElem?_append_right (by omega)] at hy
    obtain ⟨u, hu, hr⟩ := RTm i y (by simp only; rw [List.getElem?_append_right (by omega), hfl]; exact hy)
    exact ⟨u, hu, hr.later lt (fun _ _ h => h)⟩
theorem trDraw_ok {P : Program} {M : Mode} {ops : Array Oper} {k : St → Prop} {st : St} (h : trDraw P M ops k st) (hm : P.follows .mixedOrders = true) {ext : Nat → Prop} {w0 : World} {own0 : Own0} {Q : Exit → Act → World → Prop} (hQ : ∀ st a w, k st → Rep P ext w0 own0 st a w → Q .normal a w)
    (hX : PanQ P M ext w0 own0 Q) {a : Act} {w : World} (R : Rep P ext w0 own0 st a w) (id : Nat) : (Code.region id ops true).wp P Q a w := by
  refine wp_region_any hm ?_
  unfold trDraw at h
  obtain ⟨recs, pn, hl, hk, hkx, _, hpn, hT⟩ := trDr_out _ _ _ _ List.nodup_range (by simp) h
  simp only [List.nil_append, List.length_range] at hk hkx hl
  have hlt : ∀ (i : Nat) (r : Rec), recs[i]? = some r → i < ops.size := fun i r hr => by
    rw [← hl]
    exact (List.getElem?_eq_some_iff.1 hr).1
  have hD : ∃ (_ : DrawOK ops st.h.length recs), (∀ i0 x, pn = some (i0, x) → okPan st.h.length st.h recs = true ∧ M.kp x (panSt ops st)) := by
    cases hq : pn with
    | none =>
      have h1 := hk hq
      split at h1
      · rename_i hok
        exact ⟨okDraw_spec hok, by simp⟩
      · exact h1.elim
    | some q =>
      obtain ⟨i0, x⟩ := q
      have h1 := hkx i0 x hq
      split at h1
      · rename_i hok
        simp only [Bool.and_eq_true] at hok
        exact ⟨okDraw_spec hok.1, fun i1 x1 e => by cases e; exact ⟨hok.2, h1⟩⟩
      · exact h1.elim
  obtain ⟨D, hP⟩ := hD
  refine draw_any (ext := ext) (w0 := w0) (own0 := own0) (st0 := ⟨st.t, st.h ++ List.replicate ops.size .rs⟩) pn D (by simp) (fun i hi => ?_) (fun i r hr => hT i i r (by simp [hlt i r hr]) hr) (fun i0 x e => ?_) (fun e a w R => ?_) (fun i0 x e S v a w R => ?_) ops.size _ a _ ?_ (by simp) ?_ ?_ ?_
  · rw [List.getElem?_append_right (by simp)]
    simp [hi]
  · rcases hpn _ e with h1 | h1
    · cases h1
    · simpa using h1
  · have h1 := hk e
    split at h1
    · exact hQ _ a w h1 R
    · exact h1.elim
  · obtain ⟨h1, h2⟩ := hP i0 x e
    refine hX x (panSt ops st) v a w h2 (pan_weak (fun r hr o ho => ?_) (fun r hr => ?_) h1 S R)
    · obtain ⟨i, hi, hir⟩ := List.getElem_of_mem hr
      exact D.idlt i r (by rw [← hir]; exact List.getElem?_eq_getElem hi) o ho
    · obtain ⟨i, hi, hir⟩ := List.getElem_of_mem hr
      have hr' : recs[i]? = some r := by rw [← hir]; exact List.getElem?_eq_getElem hi
      obtain ⟨o, ho, hd, _⟩ := hT i i r (by simp [hlt i r hr']) hr'
      exact ⟨o, by simpa using List.mem_of_getElem? (show ops.toList[i]? = some o by simpa using ho), hd⟩
  · unfold left
    simp
  · intro j o _ hS
    exfalso
    by_cases hj : j < ops.size
    · simp [hj] at hS
    · simp [hj] at hS
  · intro i0 x _
    by_cases hj : i0 < ops.size
    · simp [hj]
    · simp [hj]
  · have nil : ∀ (rs : List Rec) (k : Nat) (s : St), foldS (fun i => (Array.replicate ops.size false).getD i false) rs k s = s := by
      intro rs
      induction rs with
      | nil => intro k s; rfl
      | cons r rs ih =>
        intro k s
        simp only [foldS]
        rw [if_neg (by
          by_cases hj : k < ops.size
          · simp [hj]
          · simp [hj])]
        exact ih _ _
    rw [nil]
    exact drew_rep (res_rep R _)
end Go.Proofs.YtejefchehdifhaaGreatDoor.Ev
end
section
set_option linter.unusedVariables false
set_option linter.unusedSimpArgs false
namespace Go.Proofs.YtejefchehdifhaaGreatDoor.Ev
open Go
def forget (live : Nat) : Nat → List TV → List TV
  | _, [] => []
  | i, v :: r => (if live.testBit i then v else .und) :: forget live (i + 1) r
theorem forget_get (live : Nat) : ∀ (l : List TV) (k i : Nat), (forget live k l).length = l.length ∧ ∀ x, (forget live k l)[i]? = some x → ∃ y, l[i]? = some y ∧ (x = y ∨ x = .und)
  | [], k, i => ⟨rfl, fun x h => by cases h⟩
  | v :: r, k, i => by
    obtain ⟨h1, _⟩ := forget_get live r (k + 1) 0
    refine ⟨by simp [forget, h1], fun x hx => ?_⟩
    cases i with
    | zero =>
      simp only [forget] at hx
      cases hx
      exact ⟨v, rfl, by split; exact .inl rfl; exact .inr rfl⟩
    | succ i => exact (forget_get live r (k + 1) i).2 x hx
def PinLt (own0 : Own0) (n : Nat) : Prop := ∀ (o : Nat) (x : Loc), own0.pin o = some x → o < n
def gc (n : Nat) (st : St) : St :=
  let ids := idsH st.h (st.h.length + n) 0 (idsT st.t (List.range n))
  if ids.Nodup ∧ ids.take n = List.range n then ⟨st.t.map (reT ids), ids.map fun o => reO ids (getO st.h o)⟩ else st
theorem take_range {ids : List Nat} {n o : Nat} (h : ids.take n = List.range n) (ho : o < n) : ids[o]? = some o := by
  have : (ids.take n)[o]? = some o := by rw [h]; simp [ho]
  rw [List.getElem?_take] at this
  simpa [ho] using this
theorem gc_ok {P : Program} {ext : Nat → Prop} {w0 : World} {own0 : Own0} {st : St} {a : Act} {w : World} {n : Nat} (hp : PinLt own0 n) (R : Rep P ext w0 own0 st a w) : Rep P ext w0 own0 (gc n st) a w := by
  unfold gc
  simp only
  split
  · rename_i hn
    obtain ⟨locs, H, RTm⟩ := R.repT
    obtain ⟨H', lt⟩ := reH_ok H hn.1 (fun o x hx => take_range hn.2 (hp o x hx))
    refine ⟨R.defers, by simpa using R.size, _, H', fun i x hx => ?_⟩
    simp only [List.getElem?_map, Option.map_eq_some_iff] at hx
    obtain ⟨y, hy, rfl⟩ := hx
    obtain ⟨u, hu, hr⟩ := RTm i y hy
    exact ⟨u, hu, reT_ok (hr.later lt (fun _ _ h => h))⟩
  · exact R
theorem forget_ok {P : Program} {ext : Nat → Prop} {w0 : World} {own0 : Own0} {st : St} {a : Act} {w : World} (live : Nat) (R : Rep P ext w0 own0 st a w) : Rep P ext w0 own0 ⟨forget live 0 st.t, st.h⟩ a w := by
  obtain ⟨locs, H, RTm⟩ := R.repT
  refine ⟨R.defers, by rw [R.size]; exact (forget_get live st.t 0 0).1.symm, locs, H, fun i x hx => ?_⟩
  obtain ⟨y, hy, hxy⟩ := (forget_get live st.t 0 i).2 x hx
  obtain ⟨u, hu, hr⟩ := RTm i y hy
  refine ⟨u, hu, ?_⟩
  rcases hxy with rfl | rfl
  · exact hr
  · trivial
def nslC (n : Nat) : List AV → List AV × List Ob
  | [] => ([], [])
  | .nsl sz :: r => let (a, b) := nslC (n + 1) r; (.ofl sz n :: a, .f 0 sz [] :: b)
  | x :: r => let (a, b) := nslC n r; (x :: a, b)
def nslT (n : Nat) : List TV → List TV × List Ob
  | [] => ([], [])
  | .one (.nsl sz) :: r => let (a, b) := nslT (n + 1) r; (.one (.ofl sz n) :: a, .f 0 sz [] :: b)
  | x :: r => let (a, b) := nslT n r; (x :: a, b)
def nslH (n : Nat) : List Ob → List Ob × List Ob
  | [] => ([], [])
  | .g gt cs :: r => let (c, b) := nslC n cs; let (a, b') := nslH (n + b.length) r; (.g gt c :: a, b ++ b')
  | x :: r => let (a, b) := nslH n r; (x :: a, b)
def nslOwn (st : St) : St :=
  let (t, b) := nslT st.h.length st.t
  let (h, b') := nslH (st.h.length + b.length) st.h
  ⟨t, h ++ (b ++ b')⟩
def isE (bs : List Ob) : Prop := ∀ ob ∈ bs, ∃ sz, ob = .f 0 sz []
def locE (base : Nat) (bs : List Ob) (locs : Nat → Option Loc) (o : Nat) : Option Loc :=
  if o < base then locs o else match bs[o - base]? with
    | some (.f _ sz _) => some ⟨none, 0, sz, 0⟩
    | _ => none
theorem nslC_ok (n : Nat) : ∀ (cs : List AV) (n : Nat), (nslC n cs).1.length = cs.length ∧ isE (nslC n cs).2 ∧
    ∀ (j : Nat) (x : AV), (nslC n cs).1[j]? = some x → ∃ y, cs[j]? = some y ∧ (x = y ∨ ∃ sz k, y = .nsl sz ∧ x = .ofl sz (n + k) ∧ (nslC n cs).2[k]? = some (.f 0 sz []))
  | [], n => ⟨rfl, fun _ h => (by cases h), by simp [nslC]⟩
  | c :: r, n => by
    have key : (∃ sz, c = .nsl sz ∧ nslC n (c :: r) = (.ofl sz n :: (nslC (n + 1) r).1, .f 0 sz [] :: (nslC (n + 1) r).2)) ∨ nslC n (c :: r) = (c :: (nslC n r).1, (nslC n r).2) := by
      cases c <;> first | exact .inl ⟨_, rfl, rfl⟩ | exact .inr rfl
    rcases key with ⟨sz, rfl, e⟩ | e
    · obtain ⟨h1, h2, h3⟩ := nslC_ok n r (n + 1)
      rw [e]
      refine ⟨by simp [h1], fun ob hm => ?_, fun j x hx => ?_⟩
      · cases hm with
        | head => exact ⟨sz, rfl⟩
        | tail _ hm => exact h2 ob hm
      · cases j with
        | zero => cases hx; exact ⟨_, rfl, .inr ⟨sz, 0, rfl, rfl, rfl⟩⟩
        | succ j =>
          obtain ⟨y, hy, hxy⟩ := h3 j x hx
          refine ⟨y, hy, ?_⟩
          rcases hxy with hxy | ⟨sz', k, h4, h5, h6⟩
          · exact .inl hxy
          · exact .inr ⟨sz', k + 1, h4, by rw [h5]; congr 1; omega, h6⟩
    · obtain ⟨h1, h2, h3⟩ := nslC_ok n r n
      rw [e]
      refine ⟨by simp [h1], h2, fun j x hx => ?_⟩
      cases j with
      | zero => cases hx; exact ⟨_, rfl, .inl rfl⟩
      | succ j => exact h3 j x hx
theorem nslT_ok : ∀ (ts : List TV) (n : Nat), (nslT n ts).1.length = ts.length ∧ isE (nslT n ts).2 ∧
    ∀ (j : Nat) (x : TV), (nslT n ts).1[j]? = some x → ∃ y, ts[j]? = some y ∧ (x = y ∨ ∃ sz k, y = .one (.nsl sz) ∧ x = .one (.ofl sz (n + k)) ∧ (nslT n ts).2[k]? = some (.f 0 sz []))
  | [], n => ⟨rfl, fun _ h => (by cases h), by simp [nslT]⟩
  | c :: r, n => by
    have key : (∃ sz, c = .one (.nsl sz) ∧ nslT n (c :: r) = (.one (.ofl sz n) :: (nslT (n + 1) r).1, .f 0 sz [] :: (nslT (n + 1) r).2)) ∨ nslT n (c :: r) = (c :: (nslT n r).1, (nslT n r).2) := by
      cases c with
      | one a => cases a <;> first | exact .inl ⟨_, rfl, rfl⟩ | exact .inr rfl
      | _ => exact .inr rfl
    rcases key with ⟨sz, rfl, e⟩ | e
    · obtain ⟨h1, h2, h3⟩ := nslT_ok r (n + 1)
      rw [e]
      refine ⟨by simp [h1], fun ob hm => ?_, fun j x hx => ?_⟩
      · cases hm with
        | head => exact ⟨sz, rfl⟩
        | tail _ hm => exact h2 ob hm
      · cases j with
        | zero => cases hx; exact ⟨_, rfl, .inr ⟨sz, 0, rfl, rfl, rfl⟩⟩
        | succ j =>
          obtain ⟨y, hy, hxy⟩ := h3 j x hx
          refine ⟨y, hy, ?_⟩
          rcases hxy with hxy | ⟨sz', k, h4, h5, h6⟩
          · exact .inl hxy
          · exact .inr ⟨sz', k + 1, h4, by rw [h5]; congr 2; omega, h6⟩
    · obtain ⟨h1, h2, h3⟩ := nslT_ok r n
      rw [e]
      refine ⟨by simp [h1], h2, fun j x hx => ?_⟩
      cases j with
      | zero => cases hx; exact ⟨_, rfl, .inl rfl⟩
      | succ j => exact h3 j x hx
theorem nslH_ok : ∀ (h : List Ob) (n : Nat), (nslH n h).1.length = h.length ∧ isE (nslH n h).2 ∧
    ∀ (o : Nat) (ob : Ob), (nslH n h).1[o]? = some ob → ∃ ob0, h[o]? = some ob0 ∧ (ob = ob0 ∨ ∃ gt cs cs', ob0 = .g gt cs ∧ ob = .g gt cs' ∧ cs'.length = cs.length ∧
      ∀ (j : Nat) (x : AV), cs'[j]? = some x → ∃ y, cs[j]? = some y ∧ (x = y ∨ ∃ sz k, y = .nsl sz ∧ x = .ofl sz (n + k) ∧ (nslH n h).2[k]? = some (.f 0 sz [])))
  | [], n => ⟨rfl, fun _ h => (by cases h), by simp [nslH]⟩
  | c :: r, n => by
    have key : (∃ gt cs, c = .g gt cs ∧ nslH n (c :: r) = (.g gt (nslC n cs).1 :: (nslH (n + (nslC n cs).2.length) r).1, (nslC n cs).2 ++ (nslH (n + (nslC n cs).2.length) r).2)) ∨ nslH n (c :: r) = (c :: (nslH n r).1, (nslH n r).2) := by
      cases c <;> first | exact .inl ⟨_, _, rfl, rfl⟩ | exact .inr rfl
    rcases key with ⟨gt, cs, rfl, e⟩ | e
    · obtain ⟨h1, h2, h3⟩ := nslH_ok r (n + (nslC n cs).2.length)
      obtain ⟨g1, g2, g3⟩ := nslC_ok n cs n
      rw [e]
      refine ⟨by simp [h1], fun ob hm => ?_, fun o ob ho => ?_⟩
      · rcases List.mem_append.1 hm with hm | hm
        · exact g2 ob hm
        · exact h2 ob hm
      · cases o with
        | zero =>
          cases ho
          refine ⟨_, rfl, .inr ⟨gt, cs, _, rfl, rfl, g1, fun j x hx => ?_⟩⟩
          obtain ⟨y, hy, hxy⟩ := g3 j x hx
          refine ⟨y, hy, ?_⟩
          rcases hxy with hxy | ⟨sz, k, h4, h5, h6⟩
          · exact .inl hxy
          · refine .inr ⟨sz, k, h4, h5, ?_⟩
            rw [List.getElem?_append_left]
            · exact h6
            · rcases Nat.lt_or_ge k (nslC n cs).2.length with h' | h'
              · exact h'
              · rw [List.getElem?_eq_none h'] at h6; cases h6
        | succ o =>
          obtain ⟨ob0, h4, h5⟩ := h3 o ob ho
          refine ⟨ob0, h4, ?_⟩
          rcases h5 with h5 | ⟨gt0, cs0, cs', h5, h6, h7, h8⟩
          · exact .inl h5
          · refine .inr ⟨gt0, cs0, cs', h5, h6, h7, fun j x hx => ?_⟩
            obtain ⟨y, hy, hxy⟩ := h8 j x hx
            refine ⟨y, hy, ?_⟩
            rcases hxy with hxy | ⟨sz, k, i1, i2, i3⟩
            · exact .inl hxy
            · refine .inr ⟨sz, (nslC n cs).2.length + k, i1, by rw [i2]; congr 1; omega, ?_⟩
              rw [List.getElem?_append_right (by omega), show (nslC n cs).2.length + k - (nslC n cs).2.length = k by omega]
              exact i3
    · obtain ⟨h1, h2, h3⟩ := nslH_ok r n
      rw [e]
      refine ⟨by simp [h1], h2, fun o ob ho => ?_⟩
      cases o with
      | zero => cases ho; exact ⟨_, rfl, .inl rfl⟩
      | succ o => exact h3 o ob ho
theorem nslOwn_ok {P : Program} {ext : Nat → Prop} {w0 : World} {own0 : Own0} {st : St} {a : Act} {w : World} (R : Rep P ext w0 own0 st a w) : Rep P ext w0 own0 (nslOwn st) a w := by
  obtain ⟨locs, H, RTm⟩ := R.repT
  obtain ⟨t1, t2, t3⟩ := nslT_ok st.t st.h.length
  obtain ⟨g1, g2, g3⟩ := nslH_ok st.h (st.h.length + (nslT st.h.length st.t).2.length)
  unfold nslOwn
  simp only
  generalize hbt : (nslT st.h.length st.t).2 = bt at t2 t3 g1 g2 g3
  generalize hbh : (nslH (st.h.length + bt.length) st.h).2 = bh at g2 g3
  generalize hh' : (nslH (st.h.length + bt.length) st.h).1 = h' at g1 g3
  have hE : isE (bt ++ bh) := fun ob hm => (List.mem_append.1 hm).elim (t2 ob) (g2 ob)
  have hbs : ∀ (k : Nat) (ob : Ob), (h' ++ (bt ++ bh))[k]? = some ob → (k < st.h.length ∧ h'[k]? = some ob) ∨ (st.h.length ≤ k ∧ ∃ sz, ob = .f 0 sz [] ∧ locE st.h.length (bt ++ bh) locs k = some ⟨none, 0, sz, 0⟩) := by
    intro k ob hk
    by_cases hlt : k < st.h.length
    · rw [List.getElem?_append_left (by omega)] at hk
      exact .inl ⟨hlt, hk⟩
    · rw [List.getElem?_append_right (by omega), g1] at hk
      obtain ⟨sz, rfl⟩ := hE ob (List.mem_of_getElem? hk)
      exact .inr ⟨by omega, sz, rfl, by simp only [locE, if_neg hlt, hk]⟩
  have hlo : ∀ (o : Nat), o < st.h.length → locE st.h.length (bt ++ bh) locs o = locs o := fun o ho => by simp only [locE, if_pos ho]
  have hmono : ∀ (o : Nat) (x : Loc), locs o = some x → locE st.h.length (bt ++ bh) locs o = some x := by
    intro o x hx
    have : o < st.h.length := by
      rcases Nat.lt_or_ge o st.h.length with h' | h'
      · exact h'
      · rw [H.len o h'] at hx; cases hx
    rw [hlo o this]; exact hx
  have hlive : ∀ (k : Nat) (ob : Ob) (l : Loc) (d : Addr), (h' ++ (bt ++ bh))[k]? = some ob → ob.live = true → locE st.h.length (bt ++ bh) locs k = some l → l.a = some d → ∃ ob0, st.h[k]? = some ob0 ∧ ob0.live = true ∧ locs k = some l := by
    intro k ob l d hk hlv hl hd
    rcases hbs k ob hk with ⟨h1, h2⟩ | ⟨h1, sz, rfl, h3⟩
    · obtain ⟨ob0, h3, h4⟩ := g3 k ob h2
      refine ⟨ob0, h3, ?_, by rw [hlo k h1] at hl; exact hl⟩
      rcases h4 with rfl | ⟨gt, cs, cs', rfl, rfl, _⟩
      · exact hlv
      · rfl
    · rw [h3] at hl; cases hl; cases hd
  have hown : ∀ b, ownB (locE st.h.length (bt ++ bh) locs) (h' ++ (bt ++ bh)) b → ownB locs st.h b := by
    rintro b ⟨k, l, d, ob, h1, h2, h3, h4, rfl⟩
    obtain ⟨ob0, h5, h6, h7⟩ := hlive k ob l d h1 h2 h3 h4
    exact ⟨k, l, d, ob0, h5, h6, h7, h4, rfl⟩
  have lt : Later w (Bar ext locs st.h) w (Bar ext (locE st.h.length (bt ++ bh) locs) (h' ++ (bt ++ bh))) := ⟨fun _ _ _ => rfl, fun b _ hb => hb.elim .inl (fun hb => .inr (hown b hb))⟩
  have newRA : ∀ {sz k : Nat} {v : Value}, (∃ a, v = .slice a 0 0) → (bt ++ bh)[k]? = some (.f 0 sz []) → RA w (Bar ext (locE st.h.length (bt ++ bh) locs) (h' ++ (bt ++ bh))) (locE st.h.length (bt ++ bh) locs) (.ofl sz (st.h.length + k)) v := by
    rintro sz k v ⟨a, rfl⟩ hk
    refine ⟨⟨none, 0, sz, 0⟩, a, 0, ?_, rfl, rfl, Nat.le_refl _, Nat.le_refl _, .inl rfl⟩
    simp only [locE, if_neg (show ¬ st.h.length + k < st.h.length by omega), show st.h.length + k - st.h.length = k by omega, hk]
  refine ⟨R.defers, by rw [R.size]; exact t1.symm, locE st.h.length (bt ++ bh) locs, ⟨fun o ho => ?_, fun k ob hk => ?_, fun o o' l l' ob ob' d d' hne ho ho' hlv hlv' hl hl' hd hd' => ?_, fun b hb ho => H.extOwn b hb (hown b ho), H.extlt, fun b hb ho => H.ownOld b hb (hown b ho), H.since, H.base, fun o x hx => hmono o x (H.pins o x hx)⟩, fun i x hx => ?_⟩
  · simp only [List.length_append, g1] at ho
    simp only [locE, if_neg (show ¬ o < st.h.length by omega)]
    rw [List.getElem?_eq_none (by simp; omega)]
  · rcases hbs k ob hk with ⟨h1, h2⟩ | ⟨h1, sz, rfl, h3⟩
    · obtain ⟨ob0, h3, h4⟩ := g3 k ob h2
      rcases H.ob k ob0 h3 with h5 | ⟨h5, h6⟩ | ⟨l, h5, h6⟩
      · rcases h4 with rfl | ⟨gt, cs, cs', h7, _⟩
        · exact .inl h5
        · rw [h7] at h5; cases h5
      · rcases h4 with rfl | ⟨gt, cs, cs', h7, _⟩
        · exact .inr (.inl ⟨h5, by rw [hlo k h1]; exact h6⟩)
        · rw [h7] at h5; cases h5
      · refine .inr (.inr ⟨l, by rw [hlo k h1]; exact h5, ?_⟩)
        have h7 := h6.later lt hmono (fun _ _ _ => rfl)
        rcases h4 with rfl | ⟨gt, cs, cs', rfl, rfl, h8, h9⟩
        · exact h7
        · obtain ⟨i1, b, c, i2, i3, i4, i5⟩ := h7
          refine ⟨⟨by rw [i1.1, h8], i1.2⟩, b, c, i2, i3, by rw [i4, h8], fun j x hx => ?_⟩
          obtain ⟨y, hy, hxy⟩ := h9 j x hx
          obtain ⟨u, hu, hr⟩ := i5 j y hy
          refine ⟨u, hu, ?_⟩
          rcases hxy with rfl | ⟨sz, q, rfl, rfl, hq⟩
          · exact hr
          · rw [Nat.add_assoc]
            exact newRA hr (by rw [List.getElem?_append_right (by omega), show bt.length + q - bt.length = q by omega]; exact hq)
    · exact .inr (.inr ⟨_, h3, rfl, rfl, .inl ⟨rfl, rfl, rfl⟩⟩)
  · obtain ⟨ob0, h2, h3, h4⟩ := hlive o ob l d ho hlv hl hd
    obtain ⟨ob0', h2', h3', h4'⟩ := hlive o' ob' l' d' ho' hlv' hl' hd'
    exact H.apart o o' l l' ob0 ob0' d d' hne h2 h2' h3 h3' h4 h4' hd hd'
  · obtain ⟨y, hy, hxy⟩ := t3 i x hx
    obtain ⟨u, hu, hr⟩ := RTm i y hy
    refine ⟨u, hu, ?_⟩
    rcases hxy with rfl | ⟨sz, k, rfl, rfl, hk⟩
    · exact hr.later lt hmono
    · exact newRA hr (by
        rw [List.getElem?_append_left]
        · exact hk
        · rcases Nat.lt_or_ge k bt.length with h' | h'
          · exact h'
          · rw [List.getElem?_eq_none h'] at hk; cases hk)
structure Keep where
  live : Nat
  fz : Nat
  cells : List (Nat × Nat)
  raw : Bool := false
  cut : Bool := false
def frzSl (h : List Ob) (fz : Nat) : Nat → List TV → List TV
  | _, [] => []
  | i, v :: r => (if fz.testBit i then (match frzTO h v with | some (x, _) => x | none => v) else v) :: frzSl h fz (i + 1) r
def rdSl (h : List Ob) (fz : Nat) : Nat → List TV → List Nat
  | _, [] => []
  | i, v :: r => (if fz.testBit i then (match frzTO h v with | some (_, rd) => rd | none => []) else []) ++ rdSl h fz (i + 1) r
def rdCl (h : List Ob) : List (Nat × Nat) → List Nat
  | [] => []
  | (o, j) :: r => (match getO h o with
    | .g gt cs => (match frzA h (cs.getD j .und) with | some (_, rd) => rd | none => [])
    | _ => []) ++ rdCl h r
def frzC (h : List Ob) (l : List (Nat × Nat)) (o : Nat) : Nat → List AV → List AV
  | _, [] => []
  | j, a :: r => (if l.contains (o, j) then (match frzA h a with | some (x, _) => .fz x | none => a) else a) :: frzC h l o (j + 1) r
def frzH (h : List Ob) (l : List (Nat × Nat)) : Nat → List Ob → List Ob
  | _, [] => []
  | o, .g gt cs :: r => .g gt (frzC h l o 0 cs) :: frzH h l (o + 1) r
  | o, ob :: r => ob :: frzH h l (o + 1) r
def keepV (k : Keep) (st : St) : St :=
  let rd := rdSl st.h k.fz 0 st.t ++ rdCl st.h k.cells
  ⟨frzSl st.h k.fz 0 st.t, frzH st.h k.cells 0 (putOs st.h (zs st.h rd))⟩
theorem frzSl_get (h : List Ob) (fz : Nat) : ∀ (l : List TV) (k i : Nat), (frzSl h fz k l).length = l.length ∧ ∀ x, (frzSl h fz k l)[i]? = some x → ∃ y, l[i]? = some y ∧ (x = y ∨ ∃ rd, frzTO h y = some (x, rd) ∧ ∀ q ∈ rd, q ∈ rdSl h fz k l)
  | [], k, i => ⟨rfl, fun x h => by cases h⟩
  | v :: r, k, i => by
    obtain ⟨h1, _⟩ := frzSl_get h fz r (k + 1) 0
    refine ⟨by simp [frzSl, h1], fun x hx => ?_⟩
    cases i with
    | zero =>
      simp only [frzSl] at hx
      cases hx
      refine ⟨v, rfl, ?_⟩
      by_cases hb : fz.testBit k = true
      · rw [if_pos hb]
        cases hf : frzTO h v with
        | none => exact .inl rfl
        | some p =>
          obtain ⟨x, rd⟩ := p
          exact .inr ⟨rd, rfl, fun q hq => by simp only [rdSl, if_pos hb, hf]; exact List.mem_append_left _ hq⟩
      · rw [if_neg hb]; exact .inl rfl
    | succ i =>
      obtain ⟨y, hy, hxy⟩ := (frzSl_get h fz r (k + 1) i).2 x hx
      refine ⟨y, hy, ?_⟩
      rcases hxy with hxy | ⟨rd, h2, h3⟩
      · exact .inl hxy
      · exact .inr ⟨rd, h2, fun q hq => by simp only [rdSl]; exact List.mem_append_right _ (h3 q hq)⟩
theorem frzC_get (h : List Ob) (l : List (Nat × Nat)) (o : Nat) : ∀ (cs : List AV) (k i : Nat), (frzC h l o k cs).length = cs.length ∧ ∀ x, (frzC h l o k cs)[i]? = some x → ∃ y, cs[i]? = some y ∧ (x = y ∨ ∃ v rd, x = .fz v ∧ frzA h y = some (v, rd) ∧ (o, k + i) ∈ l)
  | [], k, i => ⟨rfl, fun x h => by cases h⟩
  | v :: r, k, i => by
    obtain ⟨h1, _⟩ := frzC_get h l o r (k + 1) 0
    refine ⟨by simp [frzC, h1], fun x hx => ?_⟩
    cases i with
    | zero =>
      simp only [frzC] at hx
      cases hx
      refine ⟨v, rfl, ?_⟩
      by_cases hb : l.contains (o, k) = true
      · rw [if_pos hb]
        cases hf : frzA h v with
        | none => exact .inl rfl
        | some p => exact .inr ⟨_, _, rfl, rfl, by simpa using hb⟩
      · rw [if_neg hb]; exact .inl rfl
    | succ i =>
      obtain ⟨y, hy, hxy⟩ := (frzC_get h l o r (k + 1) i).2 x hx
      refine ⟨y, hy, ?_⟩
      rcases hxy with hxy | ⟨v, rd, h2, h3, h4⟩
      · exact .inl hxy
      · exact .inr ⟨v, rd, h2, h3, by rw [show k + (i + 1) = k + 1 + i by omega]; exact h4⟩
theorem frzH_get (h : List Ob) (l : List (Nat × Nat)) : ∀ (bs : List Ob) (k i : Nat), (frzH h l k bs).length = bs.length ∧ ∀ x, (frzH h l k bs)[i]? = some x → ∃ y, bs[i]? = some y ∧ (x = y ∨ ∃ gt cs, y = .g gt cs ∧ x = .g gt (frzC h l (k + i) 0 cs))
  | [], k, i => ⟨rfl, fun x h => by cases h⟩
  | b :: r, k, i => by
    obtain ⟨h1, _⟩ := frzH_get h l r (k + 1) 0
    refine ⟨by cases b <;> simp [frzH, h1], fun x hx => ?_⟩
    cases i with
    | zero =>
      cases b with
      | g gt cs => simp only [frzH] at hx; cases hx; exact ⟨_, rfl, .inr ⟨gt, cs, rfl, rfl⟩⟩
      | _ => simp only [frzH] at hx; cases hx; exact ⟨_, rfl, .inl rfl⟩
    | succ i =>
      have e : (frzH h l k (b :: r))[i + 1]? = (frzH h l (k + 1) r)[i]? := by cases b <;> rfl
      rw [e] at hx
      obtain ⟨y, hy, hxy⟩ := (frzH_get h l r (k + 1) i).2 x hx
      refine ⟨y, hy, ?_⟩
      rcases hxy with hxy | ⟨gt, cs, h2, h3⟩
      · exact .inl hxy
      · exact .inr ⟨gt, cs, h2, by rw [h3, show k + 1 + i = k + (i + 1) by omega]⟩
theorem rdCl_mem {h : List Ob} {o j : Nat} {gt : TypeId} {cs : List AV} {v : FV} {rd : List Nat} (ho : h[o]? = some (.g gt cs)) (hf : frzA h (cs.getD j .und) = some (v, rd)) : ∀ {l : List (Nat × Nat)}, (o, j) ∈ l → ∀ q ∈ rd, q ∈ rdCl h l
  | (o', j') :: l, hm, q, hq => by
    simp only [rdCl]
    cases hm with
    | head =>
      refine List.mem_append_left _ ?_
      have : getO h o = .g gt cs := by simp [getO, List.getD_eq_getElem?_getD, ho]
      rw [this]
      simp only [hf]
      exact hq
    | tail _ hm => exact List.mem_append_right _ (rdCl_mem ho hf hm q hq)
theorem keepV_ok {P : Program} {ext : Nat → Prop} {w0 : World} {own0 : Own0} {st : St} {a : Act} {w : World} (k : Keep) (R : Rep P ext w0 own0 st a w) : Rep P ext w0 own0 (keepV k st) a w := by
  obtain ⟨locs, H, RTm⟩ := R.repT
  unfold keepV
  simp only
  generalize hrd : rdSl st.h k.fz 0 st.t ++ rdCl st.h k.cells = rd
  obtain ⟨H1, lt1, hlen1, hz⟩ := zs_ok rd H
  have hgs : ∀ (rd : List Nat) (h : List Ob) (o : Nat) (gt : TypeId) (cs : List AV), (putOs h (zs h rd))[o]? = some (.g gt cs) → h[o]? = some (.g gt cs) := by
    intro rd
    induction rd with
    | nil => intro h o gt cs hh; exact hh
    | cons q r ih =>
      intro h o gt cs hh
      unfold zs at hh
      split at hh
      · rename_i et sz es hg
        have ho : h[q]? = some (.f et sz es) := getO_some hg (by simp)
        simp only [putOs, putO_lt ho] at hh
        have := ih _ o gt cs hh
        rw [set_get ho] at this
        split at this
        · cases this
        · exact this
      · exact ih _ o gt cs hh
  have hget := fun (o : Nat) (ob : Ob) (ho : (frzH st.h k.cells 0 (putOs st.h (zs st.h rd)))[o]? = some ob) => (frzH_get st.h k.cells (putOs st.h (zs st.h rd)) 0 o).2 ob ho
  have hlive : ∀ (o : Nat) (ob : Ob), (frzH st.h k.cells 0 (putOs st.h (zs st.h rd)))[o]? = some ob → ob.live = true → ∃ ob0, (putOs st.h (zs st.h rd))[o]? = some ob0 ∧ ob0.live = true := by
    intro o ob ho hlv
    obtain ⟨y, hy, hxy⟩ := hget o ob ho
    refine ⟨y, hy, ?_⟩
    rcases hxy with rfl | ⟨gt, cs, rfl, rfl⟩
    · exact hlv
    · rfl
  have hown : ∀ b, ownB locs (frzH st.h k.cells 0 (putOs st.h (zs st.h rd))) b → ownB locs (putOs st.h (zs st.h rd)) b := by
    rintro b ⟨o, l, d, ob, h1, h2, h3, h4, rfl⟩
    obtain ⟨ob0, h5, h6⟩ := hlive o ob h1 h2
    exact ⟨o, l, d, ob0, h5, h6, h3, h4, rfl⟩
  have lt2 : Later w (Bar ext locs (putOs st.h (zs st.h rd))) w (Bar ext locs (frzH st.h k.cells 0 (putOs st.h (zs st.h rd)))) := ⟨fun _ _ _ => rfl, fun b _ hb => hb.elim .inl (fun hb => .inr (hown b hb))⟩
  have hfl := (frzH_get st.h k.cells (putOs st.h (zs st.h rd)) 0 0).1
  refine ⟨R.defers, by rw [R.size]; exact (frzSl_get st.h k.fz st.t 0 0).1.symm, locs, ⟨fun o ho => H1.len o (by simp only at ho; omega), fun o ob ho => ?_, fun o o' l l' ob ob' d d' hne ho ho' hlv hlv' hl hl' hd hd' => ?_, fun b hb ho => H1.extOwn b hb (hown b ho), H1.extlt, fun b hb ho => H1.ownOld b hb (hown b ho), H1.since, H1.base, H1.pins⟩, fun i x hx => ?_⟩
  · obtain ⟨y, hy, hxy⟩ := hget o ob ho
    rcases H1.ob o y hy with h5 | ⟨h5, h6⟩ | ⟨l, h5, h6⟩
    · rcases hxy with rfl | ⟨gt, cs, rfl, _⟩
      · exact .inl h5
      · cases h5
    · rcases hxy with rfl | ⟨gt, cs, rfl, _⟩
      · exact .inr (.inl ⟨h5, h6⟩)
      · cases h5
    · refine .inr (.inr ⟨l, h5, ?_⟩)
      have h7 := h6.later lt2 (fun _ _ h => h) (fun _ _ _ => rfl)
      rcases hxy with rfl | ⟨gt, cs, rfl, rfl⟩
      · exact h7
      · obtain ⟨i1, b, c, i2, i3, i4, i5⟩ := h7
        have hfc := frzC_get st.h k.cells (0 + o) cs 0
        refine ⟨⟨by rw [i1.1, (hfc 0).1], i1.2⟩, b, c, i2, i3, by rw [i4, (hfc 0).1], fun j x hx => ?_⟩
        obtain ⟨y', hy', hxy'⟩ := (hfc j).2 x hx
        obtain ⟨u, hu, hr⟩ := i5 j y' hy'
        refine ⟨u, hu, ?_⟩
        rcases hxy' with rfl | ⟨v, rd', rfl, hf, hm⟩
        · exact hr
        · have ho0 := hgs rd st.h o gt cs hy
          obtain ⟨l0, hl0, hob0⟩ := H.get ho0 (by simp) (by simp)
          obtain ⟨_, b0, c0, q2, q3, q4, q5⟩ := hob0
          rw [h5] at hl0; cases hl0
          rw [i2] at q2; cases q2
          rw [i3] at q3; cases q3
          obtain ⟨u', hu', hr'⟩ := q5 j y' hy'
          rw [hu] at hu'; cases hu'
          simp only [Nat.zero_add] at hm
          have := frzA_ok (rd := rd) hf (fun q hq => by
            rw [← hrd]
            refine List.mem_append_right _ (rdCl_mem (j := j) ho0 (by rw [List.getD_eq_getElem?_getD, hy']; exact hf) hm q hq)) H hr'
          exact RF.later lt2 this
  · obtain ⟨ob0, h2, h3⟩ := hlive o ob ho hlv
    obtain ⟨ob0', h2', h3'⟩ := hlive o' ob' ho' hlv'
    exact H1.apart o o' l l' ob0 ob0' d d' hne h2 h2' h3 h3' hl hl' hd hd'
  · obtain ⟨y, hy, hxy⟩ := (frzSl_get st.h k.fz st.t 0 i).2 x hx
    obtain ⟨u, hu, hr⟩ := RTm i y hy
    refine ⟨u, hu, ?_⟩
    rcases hxy with rfl | ⟨rd', hf, hm⟩
    · exact (hr.later lt1 (fun _ _ h => h)).later lt2 (fun _ _ h => h)
    · exact (frzTO_ok (rd := rd) H hf (fun q hq => by rw [← hrd]; exact List.mem_append_left _ (hm q hq)) hr locs).later lt2 (fun _ _ h => h)
def norm (n : Nat) (k : Keep) (st : St) : St :=
  match k.raw with
  | true => gc n (keepV k (gc n ⟨forget k.live 0 st.t, st.h⟩))
  | false => gc n (nslOwn (keepV k (gc n ⟨forget k.live 0 st.t, st.h⟩)))
theorem norm_ok {P : Program} {ext : Nat → Prop} {w0 : World} {own0 : Own0} {st : St} {a : Act} {w : World} (k : Keep) {n : Nat} (hp : PinLt own0 n) (R : Rep P ext w0 own0 st a w) : Rep P ext w0 own0 (norm n k st) a w := by
  unfold norm
  split
  · exact gc_ok hp (keepV_ok k (gc_ok hp (forget_ok k.live R)))
  · exact gc_ok hp (nslOwn_ok (keepV_ok k (gc_ok hp (forget_ok k.live R))))
end Go.Proofs.YtejefchehdifhaaGreatDoor.Ev
end
section
set_option linter.unusedVariables false
set_option linter.unusedSimpArgs false
namespace Go.Proofs.YtejefchehdifhaaGreatDoor.Ev
open Go
abbrev SP := St → Prop
def QK (P : Program) (M : Mode) (ext : Nat → Prop) (w0 : World) (own0 : Own0) (kn : SP) (ke : Nat → SP) (kr : SP) : Exit → Act → World → Prop
  | .normal, a, w => ∃ st, kn st ∧ Rep P ext w0 own0 st a w
  | .exit i, a, w => ∃ st, ke i st ∧ Rep P ext w0 own0 st a w
  | .ret, a, w => ∃ st, kr st ∧ Rep P ext w0 own0 st a w
  | .panic ch, a, w => ∃ v x st, ch = [{ v, recovered := false }] ∧ M.kp x st ∧ Rep P ext w0 own0 ⟨st.t ++ [.one (.fz x)], st.h⟩ { a with tmps := a.tmps.push v } w
  | _, _, _ => False
theorem QK_pan (P : Program) (M : Mode) (ext : Nat → Prop) (w0 : World) (own0 : Own0) (kn : SP) (ke : Nat → SP) (kr : SP) : PanQ P M ext w0 own0 (QK P M ext w0 own0 kn ke kr) := fun x st v a w hk R => ⟨v, x, st, rfl, hk, R⟩
def loopWp (P : Program) (c : Code) (Q : Exit → Act → World → Prop) (a : Act) (w : World) : Prop :=
  ∀ (b : Frame) (k : List Item) (cs : List Frame), ∃ e a' w', Q e a' w' ∧ Arrives P (lone (b.at a (.code c :: .inLoop c :: k)) cs w) b k cs e a' w'
theorem loopWp.code {P : Program} {c : Code} {Q : Exit → Act → World → Prop} {a : Act} {w : World} (h : loopWp P c Q a w) : (Code.loop c).wp P Q a w :=
  fun b k cs => let ⟨e, a', w', hq, harr⟩ := h b k cs; ⟨e, a', w', hq, .of_steps (.one step_loop) harr⟩
theorem loopWp.unroll {P : Program} {c : Code} {Q : Exit → Act → World → Prop} {a : Act} {w : World} (h : c.wp P (Exit.then (loopWp P c Q) Q) a w) : loopWp P c Q a w := by
  intro b k cs
  obtain ⟨e, a₁, w₁, hq, harr⟩ := h b (.inLoop c :: k) cs
  cases e with
  | normal =>
    obtain ⟨e₂, a₂, w₂, hq₂, harr₂⟩ := hq b k cs
    exact ⟨e₂, a₂, w₂, hq₂, .of_steps (Steps.trans harr (.one step_inLoop)) harr₂⟩
  | exit id => exact ⟨_, a₁, w₁, hq, .pass (x := .inLoop c) rfl (fun _ _ => .inl (by simp)) harr⟩
  | goto l => exact ⟨_, a₁, w₁, hq, .pass (x := .inLoop c) rfl (fun _ _ => .inl (by simp)) harr⟩
  | ret => exact ⟨_, a₁, w₁, hq, .pass (x := .inLoop c) rfl (fun _ _ => .inl (by simp)) harr⟩
  | panic ch => exact ⟨_, a₁, w₁, hq, .pass (x := .inLoop c) rfl (fun _ _ => .inl (by simp)) harr⟩
  | outgrown => exact ⟨_, a₁, w₁, hq, .pass (x := .inLoop c) rfl (fun _ _ => .inl (by simp)) harr⟩
def LoopJ (P : Program) (M : Mode) (c : Code) (ke : Nat → SP) (kr : SP) (st : St) : Prop :=
  ∀ (ext : Nat → Prop) (w0 : World) (own0 : Own0) (a : Act) (w : World), PinLt own0 M.pin → Rep P ext w0 own0 st a w → loopWp P c (QK P M ext w0 own0 (fun _ => False) ke kr) a w
def CutJ (P : Program) (M : Mode) (c : Code) (kn : SP) (ke : Nat → SP) (kr : SP) (st : St) : Prop :=
  ∀ (ext : Nat → Prop) (w0 : World) (own0 : Own0) (a : Act) (w : World), PinLt own0 M.pin → Rep P ext w0 own0 st a w → c.wp P (QK P M ext w0 own0 kn ke kr) a w
def cutK (P : Program) (M : Mode) (k : Keep) (c : Code) (kn : SP) (ke : Nat → SP) (kr : SP) (t : SP) : SP :=
  match k.cut with
  | true => fun st => CutJ P M c kn ke kr (norm M.pin k st)
  | false => t
def know (c : Operand) (b : Bool) (st : St) : St :=
  match c with
  | .tmp d => ⟨st.t.set d (.one (.kb b)), st.h⟩
  | _ => st
def condK (cl : Bool) (c : Operand) (yes no : SP) (st : St) : Prop :=
  match ev st.t c with
  | .one (.kb true) => yes st
  | .one (.kb false) => no st
  | .one (.fz (.bool b)) => splitB cl b (yes (know c true st)) (no (know c false st))
  | .one .ub => yes (know c true st) ∧ no (know c false st)
  | _ => False
def tr (P : Program) (M : Mode) (lv : List Nat → Keep) : List Nat → Code → SP → (Nat → SP) → SP → SP
  | _, .skip, kn, _, _ => kn
  | _, .region _ ops d, kn, _, _ => if d = true then trDraw P M ops kn else trOps P M ops kn (List.range ops.size)
  | p, .seq a b, kn, ke, kr => tr P M lv (0 :: p) a (tr P M lv (1 :: p) b kn ke kr) ke kr
  | p, .cond c a b, kn, ke, kr => condK M.cl c (tr P M lv (0 :: p) a kn ke kr) (cutK P M (lv (1 :: p)) b kn ke kr (tr P M lv (1 :: p) b kn ke kr))
  | p, .block id c, kn, ke, kr => tr P M lv (0 :: p) c kn (fun i => if i = id then kn else ke i) kr
  | p, .loop c, _, ke, kr => fun st => LoopJ P M c ke kr (norm M.pin (lv p) st)
  | _, .exit i, _, ke, _ => ke i
  | _, .ret, _, _, kr => kr
  | _, _, _, _, _ => fun _ => False
theorem condK_ok {P : Program} {cl : Bool} {c : Operand} {yes no : SP} {st : St} (h : condK cl c yes no st) {ext : Nat → Prop} {w0 : World} {own0 : Own0} {a : Act} {w : World} (R : Rep P ext w0 own0 st a w) :
    ∃ b, a.eval c = .bool b ∧ ∃ st', Rep P ext w0 own0 st' a w ∧ (if b = true then yes st' else no st') := by
  obtain ⟨locs, H, RTm⟩ := R.repT
  have hr := ev_rep RTm c
  have kn : ∀ b, a.eval c = .bool b → Rep P ext w0 own0 (know c b st) a w := by
    intro b hb
    cases c with
    | tmp d =>
      simp only [Act.eval] at hb
      have hd : a.tmps[d]? = some (.bool b) := by
        rw [Array.getD_eq_getD_getElem?] at hb
        cases hq : a.tmps[d]? with
        | none => rw [hq] at hb; cases hb
        | some v => rw [hq] at hb; simp only [Option.getD_some] at hb; rw [hb]
      exact Rep.refine (t := st.t) (h := st.h) R hd
    | _ => exact R
  unfold condK at h
  split at h
  · rename_i hx
    rw [hx] at hr
    exact ⟨true, hr, st, R, h⟩
  · rename_i hx
    rw [hx] at hr
    exact ⟨false, hr, st, R, h⟩
  · rename_i b hx
    rw [hx] at hr
    have hb : a.eval c = .bool b := inv_bool (x := .one (.fz (.bool b))) rfl hr
    cases b with
    | true => exact ⟨true, hb, _, kn true hb, (splitB_ok h).1 rfl⟩
    | false => exact ⟨false, hb, _, kn false hb, (splitB_ok h).2 rfl⟩
  · rename_i hx
    rw [hx] at hr
    obtain ⟨b, hb⟩ := hr
    cases b with
    | true => exact ⟨true, hb, _, kn true hb, h.1⟩
    | false => exact ⟨false, hb, _, kn false hb, h.2⟩
  · exact h.elim
theorem tr_ok {P : Program} {M : Mode} {lv : List Nat → Keep} (hm : P.follows .mixedOrders = true) {ext : Nat → Prop} {w0 : World} {own0 : Own0} (hp : PinLt own0 M.pin) : ∀ (c : Code) (p : List Nat) (kn : SP) (ke : Nat → SP) (kr : SP) (st : St) (a : Act) (w : World),
    tr P M lv p c kn ke kr st → Rep P ext w0 own0 st a w → c.wp P (QK P M ext w0 own0 kn ke kr) a w := by
  intro c
  induction c with
  | skip => intro p kn ke kr st a w h R; exact wp_skip ⟨st, h, R⟩
  | region id ops d =>
    intro p kn ke kr st a w h R
    unfold tr at h
    cases d with
    | true =>
      rw [if_pos rfl] at h
      exact trDraw_ok h hm (fun st a w hk R => ⟨st, hk, R⟩) (QK_pan _ _ _ _ _ _ _ _) R id
    | false =>
      rw [if_neg (by simp)] at h
      exact wp_region (trOps_ok (fun st a w hk R => ⟨st, hk, R⟩) (QK_pan _ _ _ _ _ _ _ _) _ st a w h R)
  | seq x y ihx ihy =>
    intro p kn ke kr st a w h R
    refine wp_seq (wp_mono (ihx _ _ _ _ st a w h R) fun e a w hq => ?_)
    cases e with
    | normal => obtain ⟨st', h', R'⟩ := hq; exact ihy _ _ _ _ st' a w h' R'
    | _ => exact hq
  | cond c x y ihx ihy =>
    intro p kn ke kr st a w h R
    obtain ⟨b, hb, st', R', hif⟩ := condK_ok h R
    refine wp_cond hb ?_
    cases b with
    | true => exact ihx _ _ _ _ st' a w hif R'
    | false =>
      simp only [Bool.false_eq_true, if_false] at hif
      cases hcut : (lv (1 :: p)).cut with
      | true =>
        simp only [cutK, hcut] at hif
        exact hif ext w0 own0 a w hp (norm_ok _ hp R')
      | false =>
        simp only [cutK, hcut] at hif
        exact ihy _ _ _ _ st' a w hif R'
  | block id c ih =>
    intro p kn ke kr st a w h R
    refine wp_block (wp_mono (ih _ _ _ _ st a w h R) fun e a w hq => ?_)
    cases e with
    | exit i =>
      simp only [Exit.inBlock]
      obtain ⟨st', h', R'⟩ := hq
      split
      · rename_i e; subst e; simp only [if_true] at h'; exact ⟨st', h', R'⟩
      · rename_i e; simp only [e, if_false] at h'; exact ⟨st', h', R'⟩
    | _ => exact hq
  | loop c ih =>
    intro p kn ke kr st a w h R
    refine wp_mono (h ext w0 own0 a w hp (norm_ok _ hp R)).code fun e a w hq => ?_
    cases e with
    | normal => obtain ⟨st', h', _⟩ := hq; exact h'.elim
    | _ => exact hq
  | exit i => intro p kn ke kr st a w h R; exact wp_exit ⟨st, h, R⟩
  | ret => intro p kn ke kr st a w h R; exact wp_ret ⟨st, h, R⟩
  | _ => intros; rename_i h R; exact h.elim
theorem LoopJ.intro {P : Program} {M : Mode} {lv : List Nat → Keep} (hm : P.follows .mixedOrders = true) {c : Code} {ke : Nat → SP} {kr : SP} {st : St} (p : List Nat) (live : Keep) (h : tr P M lv p c (fun st' => LoopJ P M c ke kr (norm M.pin live st')) ke kr st) : LoopJ P M c ke kr st := by
  intro ext w0 own0 a w hp R
  refine loopWp.unroll (wp_mono (tr_ok hm hp c p _ _ _ st a w h R) fun e a w hq => ?_)
  cases e with
  | normal => obtain ⟨st', h', R'⟩ := hq; exact h' ext w0 own0 a w hp (norm_ok _ hp R')
  | _ => exact hq
def resVals (P : Program) (st : St) : List ResultVar → (List TV → Prop) → Prop
  | [], K => K []
  | .tmp t :: r, K => resVals P st r fun l => K (st.t.getD t .und :: l)
  | .cell a ty :: r, K => evLoad P ty (st.t.getD a .und) st.h fun v _ _ => resVals P st r fun l => K (v :: l)
def partT : TV → Option (Bool × List AV)
  | .one a => some (false, [a])
  | .agg cs => some (true, cs)
  | _ => none
def partTs : List TV → Option (List (Bool × List AV))
  | [] => some []
  | t :: r => match partT t with
    | some p => match partTs r with
      | some l => some (p :: l)
      | none => none
    | none => none
def nslP (n : Nat) : List (Bool × List AV) → List (Bool × List AV) × List Ob
  | [] => ([], [])
  | (b, cs) :: r => let (c, o) := nslC n cs; let (l, o') := nslP (n + o.length) r; ((b, c) :: l, o ++ o')
def resK (P : Program) (F : Func) (own : Option Nat) (R : TV → List Ob → Prop) (st : St) : Prop :=
  resVals P st F.results.toList fun vs =>
    match own with
    | some n =>
      match partTs (argsK P F.resultTypes.toList vs) with
      | some ps =>
        let q := nslP st.h.length ps
        let h := st.h ++ q.2
        let ids := idsH h (h.length + n) 0 (idsP q.1 (List.range n))
        if ids.Nodup ∧ ids.take n = List.range n then R (toTV (q.1.map fun p => (p.1, p.2.map (reA ids)))) (ids.map fun o => reO ids (getO h o)) else False
      | none => False
    | none =>
      match frzTOs st.h (argsK P F.resultTypes.toList vs) with
      | some (ags, _) =>
        match partTs ags with
        | some ps => R (toTV ps) []
        | none => False
      | none => False
def Mode.at (M : Mode) (own : Option Nat) : Mode := ⟨M.own, M.sig, own.getD 0, M.mp, M.kp, M.cl⟩
def trF (P : Program) (M : Mode) (lv : List Nat → Keep) (F : Func) (own : Option Nat) (args : List TV) (h : List Ob) (R : TV → List Ob → Prop) : Prop :=
  match F.body with
  | some c => tr P (M.at own) lv [] c (resK P F own R) (fun _ _ => False) (resK P F own R) ⟨args ++ List.replicate (F.ntmps - args.length) .und, h⟩
  | none => False
def walk (P : Program) (M : Mode) (lv : List Nat → Keep) : List Nat → List Nat → Code → SP → (Nat → SP) → SP → (List Nat → Code → SP → (Nat → SP) → SP → Prop) → Prop
  | [], p, c, kn, ke, kr, f => f p c kn ke kr
  | i :: q, p, .seq a b, kn, ke, kr, f => if i = 0 then walk P M lv q (0 :: p) a (tr P M lv (1 :: p) b kn ke kr) ke kr f else walk P M lv q (1 :: p) b kn ke kr f
  | i :: q, p, .cond c a b, kn, ke, kr, f => if i = 0 then walk P M lv q (0 :: p) a kn ke kr f else walk P M lv q (1 :: p) b kn ke kr f
  | i :: q, p, .block id c, kn, ke, kr, f => walk P M lv q (0 :: p) c kn (fun i => if i = id then kn else ke i) kr f
  | i :: q, p, .loop c, kn, ke, kr, f => walk P M lv q (0 :: p) c (fun st => LoopJ P M c ke kr (norm M.pin (lv p) st)) ke kr f
  | _, _, _, _, _, _, _ => False
def LoopAt (P : Program) (M : Mode) (lv : List Nat → Keep) (F : Func) (own : Option Nat) (R : TV → List Ob → Prop) (path : List Nat) (st : St) : Prop :=
  match F.body with
  | some c => walk P (M.at own) lv path [] c (resK P F own R) (fun _ _ => False) (resK P F own R) fun p c kn ke kr => match c with
    | .loop c => LoopJ P (M.at own) c ke kr st
    | _ => False
  | none => False
def Round (P : Program) (M : Mode) (lv : List Nat → Keep) (F : Func) (own : Option Nat) (R : TV → List Ob → Prop) (path : List Nat) (st : St) : Prop :=
  match F.body with
  | some c => walk P (M.at own) lv path [] c (resK P F own R) (fun _ _ => False) (resK P F own R) fun p c kn ke kr => match c with
    | .loop c => tr P (M.at own) lv (0 :: p) c (fun st' => LoopJ P (M.at own) c ke kr (norm (own.getD 0) (lv p) st')) ke kr st
    | _ => False
  | none => False
theorem walk_imp {P : Program} {M : Mode} {lv : List Nat → Keep} {f g : List Nat → Code → SP → (Nat → SP) → SP → Prop} (hfg : ∀ p c kn ke kr, f p c kn ke kr → g p c kn ke kr) : ∀ (q p : List Nat) (c : Code) (kn : SP) (ke : Nat → SP) (kr : SP), walk P M lv q p c kn ke kr f → walk P M lv q p c kn ke kr g
  | [], p, c, kn, ke, kr, h => by unfold walk at h ⊢; exact hfg _ _ _ _ _ h
  | i :: q, p, c, kn, ke, kr, h => by
    cases c <;> unfold walk at h ⊢ <;> try exact h
    · split
      · rw [if_pos ‹_›] at h; exact walk_imp hfg q _ _ _ _ _ h
      · rw [if_neg ‹_›] at h; exact walk_imp hfg q _ _ _ _ _ h
    · split
      · rw [if_pos ‹_›] at h; exact walk_imp hfg q _ _ _ _ _ h
      · rw [if_neg ‹_›] at h; exact walk_imp hfg q _ _ _ _ _ h
    · exact walk_imp hfg q _ _ _ _ _ h
    · exact walk_imp hfg q _ _ _ _ _ h
theorem LoopAt.intro {P : Program} {M : Mode} {lv : List Nat → Keep} {F : Func} {own : Option Nat} {R : TV → List Ob → Prop} {path : List Nat} {st : St} (hm : P.follows .mixedOrders = true) (h : Round P M lv F own R path st) : LoopAt P M lv F own R path st := by
  unfold Round at h
  unfold LoopAt
  split
  · rename_i c hc
    rw [hc] at h
    refine walk_imp (fun p c kn ke kr h => ?_) path _ _ _ _ _ h
    cases c <;> first | exact LoopJ.intro (M := M.at own) hm _ _ h | exact h
  · rename_i hc
    rw [hc] at h
    exact h
end Go.Proofs.YtejefchehdifhaaGreatDoor.Ev
end
section
set_option linter.unusedVariables false
set_option linter.unusedSimpArgs false
namespace Go.Proofs.YtejefchehdifhaaGreatDoor.Ev
open Go
section
variable {P : Program} {ext : Nat → Prop} {w0 : World} {own0 : Own0} {locs : Nat → Option Loc} {h : List Ob} {w : World}
theorem evLoad_run {ty : TypeId} {x : TV} {K : OpK} (he : evLoad P ty x h K) (H : RepH P ext w0 own0 locs h w) {u : Value} (hu : RT w (Bar ext locs h) locs x u) :
    ∃ v wr rd, K v wr rd ∧ ∃ d, u = .pointer (some d) ∧ ∃ vc, (loadVar ty d).run P w = .ok vc w ∧ RT w (Bar ext locs h) locs v vc := by
  unfold evLoad at he
  split at he
  · rename_i q e c ety
    obtain ⟨l', d, h1, h2, h3⟩ := hu
    split at he
    · rename_i cs ho
      split at he
      · rename_i he0
        subst he0
        obtain ⟨v, hk, hv⟩ := loadK_ok he
        have hq := getO_some ho (by simp)
        obtain ⟨l, hl, hs, b, cc, hla, hheap, hsz, hcell⟩ := H.get hq (by simp) (by simp)
        rw [hl] at h1; cases h1
        rw [hla] at h2; cases h2
        obtain ⟨vc, hrun, hr⟩ := hv w _ locs b 0 (fun j y hy => by obtain ⟨u, hu, hra⟩ := hcell j y hy; exact ⟨u, by simp [World.cell?, hheap, hu], hra⟩)
        refine ⟨v, _, _, hk, _, h3, vc, ?_, hr⟩
        simpa using hrun
      · exact he.elim
    · rename_i et sz es ho
      obtain ⟨cs, hcs, he⟩ := exC_out he
      obtain ⟨v, hk, hv⟩ := loadK_ok he
      have hq : h[q]? = some (.f et sz es) := getO_some ho (by simp)
      obtain ⟨l, hl, hs, hln, hlay⟩ := H.get hq (by simp) (by simp)
      rw [hl] at h1; cases h1
      rcases hlay with hlay | ⟨b, off, cc, ty', hla, hheap, het, hsz, hcap, hcell⟩
      · rw [hlay.1] at hcs; simp at hcs
      · rw [hla] at h2; cases h2
        obtain ⟨hcl, hcv⟩ := hcell e cs hcs
        obtain ⟨vc, hrun, hr⟩ := hv w _ locs b (off + e * sz) (fun j y hy => by
          obtain ⟨z, hz, rfl⟩ := map_fz hy
          obtain ⟨u, hu, hra⟩ := hcv j z hz; exact ⟨u, by simp [World.cell?, hheap, hu], hra⟩)
        refine ⟨v, _, _, hk, _, h3, vc, ?_, hr⟩
        rw [hs]; exact hrun
    · rename_i sz es ho
      obtain ⟨cs, hcs, he⟩ : ∃ cs, es[e]? = some cs ∧ loadK P ty c (cs.map .fz) fun v => K v [] [q] := by
        split at he
        · split at he
          · exact ⟨_, rfl, he⟩
          · exact he.elim
        · exact exC_out he
      obtain ⟨v, hk, hv⟩ := loadK_ok he
      have hq : h[q]? = some (.z sz es) := getO_some ho (by simp)
      obtain ⟨l, hl, hs, hln, hlay⟩ := H.get hq (by simp) (by simp)
      rw [hl] at h1; cases h1
      rcases hlay with hlay | ⟨b, off, hla, hcell⟩
      · rw [hlay] at hcs; simp at hcs
      · rw [hla] at h2; cases h2
        obtain ⟨hcl, hcv⟩ := hcell e cs hcs
        obtain ⟨vc, hrun, hr⟩ := hv w _ locs b (off + e * sz) (fun j y hy => by
          obtain ⟨z, hz, rfl⟩ := map_fz hy
          obtain ⟨hn, u, hu, hra⟩ := hcv j z hz; exact ⟨u, hu, hra⟩)
        refine ⟨v, _, _, hk, _, h3, vc, ?_, hr⟩
        rw [hs]; exact hrun
    · exact he.elim
  · rename_i cs
    obtain ⟨v, hk, hv⟩ := loadK_ok he
    cases hu with
    | fp cs b off cvf hb hc hr0 =>
      obtain ⟨vc, hrun, hr⟩ := hv w _ locs b off (fun j y hy => by
        obtain ⟨z, hz, rfl⟩ := map_fz hy
        exact ⟨_, hc j z hz, hr0 j z hz⟩)
      exact ⟨v, _, _, hk, _, rfl, vc, by simpa using hrun, hr⟩
  · exact he.elim
def resOne (tmps : Array Value) : ResultVar → Sem Value
  | .tmp t => pure (tmps.getD t undef)
  | .cell a t => do loadVar t (← asAddr (tmps.getD a undef))
theorem resVals_ok {t : List TV} {a : Act} (R : Rep P ext w0 own0 ⟨t, h⟩ a w) (H : RepH P ext w0 own0 locs h w) (RTm : RepT w (Bar ext locs h) locs t a) : ∀ (rs : List ResultVar) (K : List TV → Prop), resVals P ⟨t, h⟩ rs K →
    ∃ vs, K vs ∧ ∃ vals : List Value, (rs.mapM (resOne a.tmps)).run P w = .ok vals w ∧ vals.length = vs.length ∧ ∀ (i : Nat) (x : TV), vs[i]? = some x → ∃ v, vals[i]? = some v ∧ RT w (Bar ext locs h) locs x v
  | [], K, hk => ⟨[], hk, [], by simp, rfl, by simp⟩
  | .tmp d :: r, K, hk => by
    obtain ⟨vs, hk, vals, h1, h2, h3⟩ := resVals_ok R H RTm r _ hk
    have hr := ev_rep RTm (.tmp d)
    refine ⟨_, hk, a.tmps.getD d undef :: vals, by simp [List.mapM_cons, resOne, h1], by simp [h2], fun i x hx => ?_⟩
    cases i with
    | zero => cases hx; exact ⟨_, rfl, hr⟩
    | succ i => exact h3 i x hx
  | .cell d ty :: r, K, hk => by
    unfold resVals at hk
    obtain ⟨v, _, _, hk, ad, had, vc, hrun, hr⟩ := evLoad_run hk H (ev_rep RTm (.tmp d))
    obtain ⟨vs, hk, vals, h1, h2, h3⟩ := resVals_ok R H RTm r _ hk
    have had' : a.tmps.getD d undef = .pointer (some ad) := had
    refine ⟨_, hk, vc :: vals, ?_, by simp [h2], fun i x hx => ?_⟩
    · rw [List.mapM_cons]
      simp only [Sem.run_bind, resOne, had', asAddr, Sem.run_pure, Result.andThen, hrun, h1]
    · cases i with
      | zero => cases hx; exact ⟨_, rfl, hr⟩
      | succ i => exact h3 i x hx
def oneV : List Value → Value
  | [v] => v
  | vs => .tuple vs.toArray
theorem results_run {F : Func} {a : Act} {vals : List Value} (hr : (F.results.toList.mapM (resOne a.tmps)).run P w = .ok vals w) : (results F a.tmps).run P w = .ok (oneV vals) w := by
  have e : results F a.tmps = (do let vs ← F.results.mapM (resOne a.tmps); pure (if h : vs.size = 1 then vs[0] else .tuple vs)) := by
    unfold results
    congr 1
  rw [e, Array.mapM_eq_mapM_toList]
  simp only [Sem.run_bind, Sem.run_map, hr, Result.andThen, Sem.run_pure]
  match vals with
  | [] => rfl
  | [v] => rfl
  | v :: v' :: vs => rfl
end
theorem partTs_ok {w : World} {B : Nat → Prop} {locs : Nat → Option Loc} : ∀ {ts : List TV} {ps : List (Bool × List AV)}, partTs ts = some ps → ps.length = ts.length ∧
    ∀ (i : Nat) (b : Bool) (cs : List AV), ps[i]? = some (b, cs) → ∃ x, ts[i]? = some x ∧ ∀ v, RT w B locs x v → RC w B locs b cs v
  | [], ps, h => by cases h; exact ⟨rfl, by simp⟩
  | t :: r, ps, h => by
    unfold partTs at h
    split at h
    · rename_i p hp
      split at h
      · rename_i l hl
        cases h
        obtain ⟨h1, h2⟩ := partTs_ok hl
        refine ⟨by simp [h1], fun i b cs hi => ?_⟩
        cases i with
        | zero =>
          cases hi
          refine ⟨t, rfl, fun v hv => ?_⟩
          cases t with
          | one a => cases hp; exact ⟨[v], rfl, rfl, fun _ => rfl, fun j x hx => by
              cases j with
              | zero => cases hx; exact ⟨v, rfl, hv⟩
              | succ j => simp at hx⟩
          | agg cs => cases hp; exact hv
          | _ => cases hp
        | succ i => exact h2 i b cs hi
      · cases h
    · cases h
theorem toTV_val {w : World} {B : Nat → Prop} {locs : Nat → Option Loc} {ps : List (Bool × List AV)} {vals : List Value} (hl : vals.length = ps.length) (h : ∀ (i : Nat) (b : Bool) (cs : List AV), ps[i]? = some (b, cs) → ∃ v, vals[i]? = some v ∧ RC w B locs b cs v) :
    RT w B locs (toTV ps) (oneV vals) := by
  have tup : RT w B locs (.tup ps) (.tuple vals.toArray) := ⟨_, rfl, by simpa using hl, fun i b cs hi => by obtain ⟨v, hv, hr⟩ := h i b cs hi; exact ⟨v, by simpa using hv, hr⟩⟩
  cases ps with
  | nil =>
    cases vals with
    | nil => exact tup
    | cons _ _ => simp at hl
  | cons p ps =>
    cases vals with
    | nil => simp at hl
    | cons v vals =>
      obtain ⟨b, cs⟩ := p
      cases ps with
      | nil =>
        cases vals with
        | cons _ _ => simp at hl
        | nil =>
          obtain ⟨v', hv', hr⟩ := h 0 b cs rfl
          cases hv'
          cases b with
          | true => exact hr
          | false =>
            obtain ⟨vs, h1, h2, h3, h4⟩ := hr
            have h5 := h3 rfl
            obtain ⟨u, rfl⟩ := List.length_eq_one_iff.1 h5
            obtain ⟨a, rfl⟩ := List.length_eq_one_iff.1 h2.symm
            obtain ⟨u', hu', hra⟩ := h4 0 a rfl
            cases hu'
            subst h1
            exact hra
      | cons p' ps =>
        cases vals with
        | nil => simp at hl
        | cons v' vals =>
          have e1 : toTV ((b, cs) :: p' :: ps) = .tup ((b, cs) :: p' :: ps) := by rcases b with _ | _ <;> rcases cs with _ | ⟨_, _ | _⟩ <;> rfl
          rw [e1]; exact tup
section
variable {P : Program} {ext : Nat → Prop} {w0 : World} {own0 : Own0} {locs : Nat → Option Loc} {h : List Ob} {w : World}
theorem nslP_ok : ∀ (ps : List (Bool × List AV)) (n : Nat), (nslP n ps).1.length = ps.length ∧ isE (nslP n ps).2 ∧
    ∀ (i : Nat) (b : Bool) (cs' : List AV), (nslP n ps).1[i]? = some (b, cs') → ∃ cs, ps[i]? = some (b, cs) ∧ cs'.length = cs.length ∧
      ∀ (j : Nat) (x : AV), cs'[j]? = some x → ∃ y, cs[j]? = some y ∧ (x = y ∨ ∃ sz k, y = .nsl sz ∧ x = .ofl sz (n + k) ∧ (nslP n ps).2[k]? = some (.f 0 sz []))
  | [], n => ⟨rfl, fun _ h => (by cases h), by simp [nslP]⟩
  | (b, cs) :: r, n => by
    obtain ⟨h1, h2, h3⟩ := nslP_ok r (n + (nslC n cs).2.length)
    obtain ⟨g1, g2, g3⟩ := nslC_ok n cs n
    have e : nslP n ((b, cs) :: r) = ((b, (nslC n cs).1) :: (nslP (n + (nslC n cs).2.length) r).1, (nslC n cs).2 ++ (nslP (n + (nslC n cs).2.length) r).2) := rfl
    rw [e]
    refine ⟨by simp [h1], fun ob hm => ?_, fun i b' cs' hi => ?_⟩
    · rcases List.mem_append.1 hm with hm | hm
      · exact g2 ob hm
      · exact h2 ob hm
    · cases i with
      | zero =>
        cases hi
        refine ⟨cs, rfl, g1, fun j x hx => ?_⟩
        obtain ⟨y, hy, hxy⟩ := g3 j x hx
        refine ⟨y, hy, ?_⟩
        rcases hxy with hxy | ⟨sz, k, h4, h5, h6⟩
        · exact .inl hxy
        · refine .inr ⟨sz, k, h4, h5, ?_⟩
          rw [List.getElem?_append_left]
          · exact h6
          · rcases Nat.lt_or_ge k (nslC n cs).2.length with h' | h'
            · exact h'
            · rw [List.getElem?_eq_none h'] at h6; cases h6
      | succ i =>
        obtain ⟨cs0, h4, h5, h6⟩ := h3 i b' cs' hi
        refine ⟨cs0, h4, h5, fun j x hx => ?_⟩
        obtain ⟨y, hy, hxy⟩ := h6 j x hx
        refine ⟨y, hy, ?_⟩
        rcases hxy with hxy | ⟨sz, k, i1, i2, i3⟩
        · exact .inl hxy
        · refine .inr ⟨sz, (nslC n cs).2.length + k, i1, by rw [i2]; congr 1; omega, ?_⟩
          rw [List.getElem?_append_right (by omega), show (nslC n cs).2.length + k - (nslC n cs).2.length = k by omega]
          exact i3
theorem RepH.empties (H : RepH P ext w0 own0 locs h w) {bs : List Ob} (hE : isE bs) : RepH P ext w0 own0 (locE h.length bs locs) (h ++ bs) w ∧ Later w (Bar ext locs h) w (Bar ext (locE h.length bs locs) (h ++ bs)) ∧
    (∀ (o : Nat) (x : Loc), locs o = some x → locE h.length bs locs o = some x) := by
  have hbs : ∀ (k : Nat) (ob : Ob), (h ++ bs)[k]? = some ob → (k < h.length ∧ h[k]? = some ob) ∨ (h.length ≤ k ∧ ∃ sz, ob = .f 0 sz [] ∧ locE h.length bs locs k = some ⟨none, 0, sz, 0⟩) := by
    intro k ob hk
    by_cases hlt : k < h.length
    · rw [List.getElem?_append_left hlt] at hk; exact .inl ⟨hlt, hk⟩
    · rw [List.getElem?_append_right (by omega)] at hk
      obtain ⟨sz, rfl⟩ := hE ob (List.mem_of_getElem? hk)
      exact .inr ⟨by omega, sz, rfl, by simp only [locE, if_neg hlt, hk]⟩
  have hlo : ∀ (o : Nat), o < h.length → locE h.length bs locs o = locs o := fun o ho => by simp only [locE, if_pos ho]
  have hmono : ∀ (o : Nat) (x : Loc), locs o = some x → locE h.length bs locs o = some x := by
    intro o x hx
    have : o < h.length := by
      rcases Nat.lt_or_ge o h.length with h' | h'
      · exact h'
      · rw [H.len o h'] at hx; cases hx
    rw [hlo o this]; exact hx
  have hlive : ∀ (k : Nat) (ob : Ob) (l : Loc) (d : Addr), (h ++ bs)[k]? = some ob → locE h.length bs locs k = some l → l.a = some d → h[k]? = some ob ∧ locs k = some l := by
    intro k ob l d hk hl hd
    rcases hbs k ob hk with ⟨h1, h2⟩ | ⟨h1, sz, rfl, h3⟩
    · exact ⟨h2, by rw [hlo k h1] at hl; exact hl⟩
    · rw [h3] at hl; cases hl; cases hd
  have hown : ∀ b, ownB (locE h.length bs locs) (h ++ bs) b → ownB locs h b := by
    rintro b ⟨k, l, d, ob, h1, h2, h3, h4, rfl⟩
    obtain ⟨h5, h6⟩ := hlive k ob l d h1 h3 h4
    exact ⟨k, l, d, ob, h5, h2, h6, h4, rfl⟩
  have lt : Later w (Bar ext locs h) w (Bar ext (locE h.length bs locs) (h ++ bs)) := ⟨fun _ _ _ => rfl, fun b _ hb => hb.elim .inl (fun hb => .inr (hown b hb))⟩
  refine ⟨⟨fun o ho => ?_, fun k ob hk => ?_, fun o o' l l' ob ob' d d' hne ho ho' hlv hlv' hl hl' hd hd' => ?_, fun b hb ho => H.extOwn b hb (hown b ho), H.extlt, fun b hb ho => H.ownOld b hb (hown b ho), H.since, H.base, fun o x hx => hmono o x (H.pins o x hx)⟩, lt, hmono⟩
  · simp only [List.length_append] at ho
    simp only [locE, if_neg (show ¬ o < h.length by omega)]
    rw [List.getElem?_eq_none (by omega)]
  · rcases hbs k ob hk with ⟨h1, h2⟩ | ⟨h1, sz, rfl, h3⟩
    · rcases H.ob k ob h2 with h5 | ⟨h5, h6⟩ | ⟨l, h5, h6⟩
      · exact .inl h5
      · exact .inr (.inl ⟨h5, by rw [hlo k h1]; exact h6⟩)
      · exact .inr (.inr ⟨l, by rw [hlo k h1]; exact h5, h6.later lt hmono (fun _ _ _ => rfl)⟩)
    · exact .inr (.inr ⟨_, h3, rfl, rfl, .inl ⟨rfl, rfl, rfl⟩⟩)
  · obtain ⟨h2, h4⟩ := hlive o ob l d ho hl hd
    obtain ⟨h2', h4'⟩ := hlive o' ob' l' d' ho' hl' hd'
    exact H.apart o o' l l' ob ob' d d' hne h2 h2' hlv hlv' h4 h4' hd hd'
theorem resK_ok {F : Func} {own : Option Nat} (hp : PinLt own0 (own.getD 0)) {R : TV → List Ob → Prop} {st : St} (hk : resK P F own R st) {a : Act} (Rp : Rep P ext w0 own0 st a w) :
    ∃ v r h' locs', (results F a.tmps).run P w = .ok v w ∧ R r h' ∧ RepH P ext w0 own0 locs' h' w ∧ RT w (Bar ext locs' h') locs' r v := by
  obtain ⟨locs, H, RTm⟩ := Rp.repT
  unfold resK at hk
  obtain ⟨vs, hk, vals, h1, h2, h3⟩ := resVals_ok (t := st.t) (h := st.h) Rp H RTm _ _ hk
  have hrun := results_run h1
  obtain ⟨g1, g2⟩ := argsK_ok (P := P) (w := w) (B := Bar ext locs st.h) (locs := locs) F.resultTypes.toList vs
  split at hk
  · split at hk
    · rename_i ps hps
      simp only at hk
      split at hk
      · rename_i hn
        obtain ⟨i1, i2⟩ := partTs_ok (w := w) (B := Bar ext locs st.h) (locs := locs) hps
        obtain ⟨j1, j2, j3⟩ := nslP_ok ps st.h.length
        obtain ⟨H1, lt1, hmono⟩ := H.empties j2
        obtain ⟨H2, lt2⟩ := reH_ok H1 hn.1 (fun o x hx => take_range hn.2 (hp o x hx))
        refine ⟨oneV vals, _, _, _, hrun, hk, H2, toTV_val (by simp only [List.length_map]; omega) (fun i b cs hi => ?_)⟩
        simp only [List.getElem?_map, Option.map_eq_some_iff] at hi
        obtain ⟨⟨b', cs'⟩, hq, he⟩ := hi
        cases he
        obtain ⟨cs0, hps', hcl, hcs⟩ := j3 i _ _ hq
        obtain ⟨x, hx, hxr⟩ := i2 i _ _ hps'
        obtain ⟨y, hy, hyr⟩ := g2 i x hx
        obtain ⟨v, hv, hr⟩ := h3 i y hy
        refine ⟨v, hv, ?_⟩
        obtain ⟨us, u1, u2, u3, u4⟩ := hxr v (hyr v hr)
        refine ⟨us, u1, by simp [u2, hcl], u3, fun j z hz => ?_⟩
        simp only [List.getElem?_map, Option.map_eq_some_iff] at hz
        obtain ⟨z', hz', rfl⟩ := hz
        obtain ⟨y', hy', hzy⟩ := hcs j z' hz'
        obtain ⟨u, hu, hra⟩ := u4 j y' hy'
        refine ⟨u, hu, reA_ok ?_⟩
        rcases hzy with rfl | ⟨sz, k, rfl, rfl, hk'⟩
        · exact (hra.later lt1 hmono).later lt2 (fun _ _ h => h)
        · obtain ⟨a', rfl⟩ := hra
          refine ⟨⟨none, 0, sz, 0⟩, a', 0, ?_, rfl, rfl, Nat.le_refl _, Nat.le_refl _, .inl rfl⟩
          simp only [locE, if_neg (show ¬ st.h.length + k < st.h.length by omega), show st.h.length + k - st.h.length = k by omega, hk']
      · exact hk.elim
    · exact hk.elim
  · split at hk
    · rename_i ags rd hfr
      split at hk
      · rename_i ps hps
        obtain ⟨H1, lt1, _, _⟩ := zs_ok rd H
        obtain ⟨f1, f2⟩ := frzTOs_ok (rd := rd) H hfr (fun _ h => h)
        obtain ⟨i1, i2⟩ := partTs_ok (w := w) (B := Bar ext locs (putOs st.h (zs st.h rd))) (locs := fun _ => none) hps
        have hown : ∀ b, ¬ ownB (fun _ => none) [] b := by rintro b ⟨o, l, d, ob, h1, _⟩; simp at h1
        have lt : Later w (Bar ext locs (putOs st.h (zs st.h rd))) w (Bar ext (fun _ => none) []) := ⟨fun _ _ _ => rfl, fun b _ hb => hb.elim .inl (fun hb => absurd hb (hown b))⟩
        refine ⟨oneV vals, _, [], fun _ => none, hrun, hk, ⟨fun _ _ => rfl, fun o ob ho => by simp at ho, fun o o' l l' ob ob' d d' _ ho => by simp at ho, fun b _ hb => hown b hb, H.extlt, fun b _ hb => absurd hb (hown b), H.since, H.base, fun o x hx => absurd (hp o x hx) (Nat.not_lt_zero o)⟩, ?_⟩
        refine toTV_val (by omega) (fun i b cs hi => ?_)
        obtain ⟨x, hx, hxr⟩ := i2 i b cs hi
        obtain ⟨v, hv, hr⟩ := f2 vals (fun j y hy => by
          obtain ⟨z, hz, hzr⟩ := g2 j y hy
          obtain ⟨v, hv, hr⟩ := h3 j z hz
          exact ⟨v, hv, hzr v hr⟩) (fun _ => none) i x hx
        refine ⟨v, hv, ?_⟩
        exact (hxr v hr).later lt (fun _ _ h => h)
      · exact hk.elim
    · exact hk.elim
end
theorem panH_ok {P : Program} {ext : Nat → Prop} {w0 : World} {own0 : Own0} {locs : Nat → Option Loc} {h : List Ob} {w : World} (H : RepH P ext w0 own0 locs h w) {n : Nat} (hp : PinLt own0 n) : ∃ locs', RepH P ext w0 own0 locs' (panH n h) w ∧ Later w (Bar ext locs h) w (Bar ext locs' (panH n h)) := by
  obtain ⟨H1, lt1⟩ := H.sh
  obtain ⟨H2, lt2⟩ := reH_ok H1 (ids := List.range n) List.nodup_range (fun o x hx => by simp [hp o x hx])
  have he : ((List.range n).map fun o => reO (List.range n) (getO (shH h) o)) = panH n h := by
    unfold panH
    refine List.map_congr_left fun o _ => ?_
    simp only [getO, List.getD_eq_getElem?_getD, shH_get]
    cases h[o]? with
    | none => rfl
    | some ob => cases ob <;> simp [shO, reO, reA]
  rw [he] at H2 lt2
  exact ⟨_, H2, lt1.trans lt2 (Nat.le_refl _)⟩
theorem Fn.of_trG {P : Program} {M : Mode} {lv : List Nat → Keep} {f : FuncId} {F : Func} {own : Option Nat} {args : List TV} {h : List Ob} {G : TV → List Ob → Prop} (hm : P.follows .mixedOrders = true) (hf : P.funcs[f]? = some F) (hn : h.length ≤ own.getD 0)
    (ht : trF P M lv F own args h G) (ext : Nat → Prop) (w : World) (locs : Nat → Option Loc) (vals : Array Value) (H : RepH P ext w ⟨ownB locs h, locs, []⟩ locs h w) (hsz : vals.size = args.length)
    (hrep : ∀ (i : Nat) (x : TV), args[i]? = some x → ∃ v, vals[i]? = some v ∧ RT w (Bar ext locs h) locs x v) :
    Calls P f vals w fun e w' => (∃ v r' h' locs', G r' h' ∧ e = .returned v ∧ RepH P ext w ⟨ownB locs h, locs, []⟩ locs' h' w' ∧ RT w' (Bar ext locs' h') locs' r' v) ∨
      (∃ v x st locs', M.kp x st ∧ isPan e v ∧ RepH P ext w ⟨ownB locs h, locs, []⟩ locs' (panH (own.getD 0) st.h) w' ∧ RF w' (Bar ext locs' (panH (own.getD 0) st.h)) x v) := by
  unfold trF at ht
  split at ht
  · rename_i c hc
    have hp : PinLt ⟨ownB locs h, locs, []⟩ (own.getD 0) := by
      intro o x hx
      rcases Nat.lt_or_ge o h.length with h1 | h1
      · omega
      · have := H.len o h1
        rw [show locs o = some x from hx] at this; cases this
    have R : Rep P ext w ⟨ownB locs h, locs, []⟩ ⟨args ++ List.replicate (F.ntmps - args.length) .und, h⟩ { tmps := vals ++ Array.replicate (F.ntmps - vals.size) undef, defers := [] } w := by
      refine ⟨rfl, by simp [hsz], locs, H, fun i x hx => ?_⟩
      simp only at hx
      by_cases hi : i < args.length
      · rw [List.getElem?_append_left hi] at hx
        obtain ⟨v, hv, hr⟩ := hrep i x hx
        exact ⟨v, by rw [Array.getElem?_append_left (by omega)]; exact hv, hr⟩
      · rw [List.getElem?_append_right (by omega), List.getElem?_replicate] at hx
        split at hx
        · cases hx
          refine ⟨undef, ?_, trivial⟩
          rw [Array.getElem?_append_right (by omega)]
          simp only [Array.getElem?_replicate]
          rw [if_pos (by omega)]
        · cases hx
    refine calls_of_wp hf hc (wp_mono (tr_ok (M := M.at own) hm hp c _ _ _ _ _ _ _ ht R) fun e a w' hq => ?_)
    have fin : ∀ st, resK P F own G st → Rep P ext w ⟨ownB locs h, locs, []⟩ st a w' → a.defers = [] ∧ ∃ v, (results F a.tmps).run P w' = .ok v w' ∧
        ((∃ v' r' h' locs', G r' h' ∧ Ending.returned v = .returned v' ∧ RepH P ext w ⟨ownB locs h, locs, []⟩ locs' h' w' ∧ RT w' (Bar ext locs' h') locs' r' v') ∨
          (∃ v' x st locs', M.kp x st ∧ isPan (.returned v) v' ∧ RepH P ext w ⟨ownB locs h, locs, []⟩ locs' (panH (own.getD 0) st.h) w' ∧ RF w' (Bar ext locs' (panH (own.getD 0) st.h)) x v')) := by
      intro st hk R'
      obtain ⟨v, r', h'', locs', h1, h2, h3, h4⟩ := resK_ok hp hk R'
      exact ⟨R'.defers, v, h1, .inl ⟨v, r', h'', locs', h2, rfl, h3, h4⟩⟩
    cases e with
    | normal => obtain ⟨st, hk, R'⟩ := hq; exact fin st hk R'
    | ret => obtain ⟨st, hk, R'⟩ := hq; exact fin st hk R'
    | exit i => obtain ⟨st, hk, _⟩ := hq; exact hk.elim
    | panic ch =>
      obtain ⟨v, x, st, rfl, hk, R'⟩ := hq
      refine ⟨R'.defers, .inr ?_⟩
      obtain ⟨locs1, H1, RTm⟩ := R'.repT
      obtain ⟨locs2, H2, lt2⟩ := panH_ok H1 hp
      have hs : a.tmps.size = st.t.length := by simpa using R'.size
      obtain ⟨u, hu, hr⟩ := RTm st.t.length (.one (.fz x)) (by simp)
      simp only at hu
      rw [Array.getElem?_push, if_pos hs.symm] at hu
      cases hu
      exact ⟨v, x, st, locs2, hk, rfl, H2, RF.later lt2 hr⟩
    | _ => exact hq.elim
  · exact ht.elim
theorem Fn.of_tr {P : Program} {M : Mode} {lv : List Nat → Keep} {f : FuncId} {F : Func} {own : Option Nat} {args : List TV} {h : List Ob} {r : TV} {h' : List Ob} (hm : P.follows .mixedOrders = true) (hf : P.funcs[f]? = some F) (hn : h.length ≤ own.getD 0)
    (hk : ∀ x st, M.kp x st → False) (ht : trF P M lv F own args h fun r' h'' => r' = r ∧ h'' = h') : Fn P f args h r h' := by
  intro ext w locs vals H hsz hrep
  refine (Fn.of_trG hm hf hn ht ext w locs vals H hsz hrep).mono ?_
  rintro e w' (⟨v, r', h'', locs', ⟨rfl, rfl⟩, h2, h3, h4⟩ | ⟨v, x, st, locs', h1, _⟩)
  · exact ⟨v, locs', h2, h3, h4⟩
  · exact (hk x st h1).elim
def wk1 (a b : Ob) : Prop := a = b ∨ ∃ et sz es, a = .f et sz es ∧ b = .f 0 sz es
def Wk : List Ob → List Ob → Prop
  | [], [] => True
  | a :: l, b :: m => wk1 a b ∧ Wk l m
  | _, _ => False
theorem wk1.refl (a : Ob) : wk1 a a := .inl rfl
theorem Wk.refl : ∀ (l : List Ob), Wk l l
  | [] => trivial
  | a :: l => ⟨.inl rfl, Wk.refl l⟩
theorem wk1_f {et sz sz' : Nat} {es es' : List (List FV)} : wk1 (.f et sz es) (.f 0 sz' es') ↔ (sz = sz' ∧ es = es') := by
  constructor
  · rintro (h | ⟨_, _, _, h1, h2⟩)
    · cases h; exact ⟨rfl, rfl⟩
    · cases h1; cases h2; exact ⟨rfl, rfl⟩
  · rintro ⟨rfl, rfl⟩
    exact .inr ⟨_, _, _, rfl, rfl⟩
theorem Wk.get : ∀ {l m : List Ob}, Wk l m → l.length = m.length ∧ ∀ (o : Nat) (b : Ob), m[o]? = some b → ∃ a, l[o]? = some a ∧ wk1 a b
  | [], [], _ => ⟨rfl, by simp⟩
  | a :: l, b :: m, h => by
    obtain ⟨h1, h2⟩ := h.2.get
    refine ⟨by simp [h1], fun o x hx => ?_⟩
    cases o with
    | zero => cases hx; exact ⟨a, rfl, h.1⟩
    | succ o => exact h2 o x hx
theorem Wk.get' {l m : List Ob} (h : Wk l m) (o : Nat) (a : Ob) (ha : l[o]? = some a) : ∃ b, m[o]? = some b ∧ wk1 a b := by
  obtain ⟨h1, h2⟩ := h.get
  have : o < m.length := by rw [← h1]; exact (List.getElem?_eq_some_iff.1 ha).1
  obtain ⟨a', h3, h4⟩ := h2 o m[o] (List.getElem?_eq_getElem this)
  rw [ha] at h3; cases h3
  exact ⟨_, List.getElem?_eq_getElem this, h4⟩
theorem wk1.live {a b : Ob} (h : wk1 a b) : a.live = b.live := by
  rcases h with rfl | ⟨_, _, _, rfl, rfl⟩ <;> rfl
theorem wk1.repOb {a b : Ob} (h : wk1 a b) {P : Program} {w : World} {B : Nat → Prop} {locs : Nat → Option Loc} {l : Loc} (hr : RepOb P w B locs l a) : RepOb P w B locs l b := by
  rcases h with rfl | ⟨_, _, _, rfl, rfl⟩
  · exact hr
  · obtain ⟨h1, h2, h3⟩ := hr
    refine ⟨h1, h2, h3.imp id ?_⟩
    rintro ⟨b, off, c, ty, g1, g2, g3, g4⟩
    exact ⟨b, off, c, ty, g1, g2, .inl rfl, g4⟩
theorem Wk.ownB {l m : List Ob} (h : Wk l m) (locs : Nat → Option Loc) (b : Nat) : ownB locs m b ↔ ownB locs l b := by
  constructor
  · rintro ⟨o, x, d, ob, h1, h2, h3⟩
    obtain ⟨a, h4, h5⟩ := h.get.2 o ob h1
    exact ⟨o, x, d, a, h4, by rw [h5.live]; exact h2, h3⟩
  · rintro ⟨o, x, d, ob, h1, h2, h3⟩
    obtain ⟨a, h4, h5⟩ := h.get' o ob h1
    exact ⟨o, x, d, a, h4, by rw [← h5.live]; exact h2, h3⟩
theorem RepH.weak {P : Program} {ext : Nat → Prop} {w0 : World} {own0 : Own0} {locs : Nat → Option Loc} {h h' : List Ob} {w : World} (H : RepH P ext w0 own0 locs h w) (k : Wk h h') : RepH P ext w0 own0 locs h' w ∧ ∀ b, Bar ext locs h' b ↔ Bar ext locs h b := by
  have hb : ∀ b, Bar ext locs h' b ↔ Bar ext locs h b := fun b => by unfold Bar; rw [k.ownB]
  have he : Bar ext locs h' = Bar ext locs h := funext fun b => propext (hb b)
  refine ⟨⟨fun o ho => H.len o (by rw [k.get.1]; exact ho), fun o ob ho => ?_, fun o o' l l' ob ob' d d' hne ho ho' hl hl' => ?_, fun b hb ho => H.extOwn b hb ((k.ownB locs b).1 ho), H.extlt, fun b hb ho => H.ownOld b hb ((k.ownB locs b).1 ho), H.since, H.base, H.pins⟩, hb⟩
  · obtain ⟨a, h1, h2⟩ := k.get.2 o ob ho
    rcases H.ob o a h1 with rfl | ⟨rfl, h3⟩ | ⟨l, h3, h4⟩
    · rcases h2 with rfl | ⟨_, _, _, h2, _⟩
      · exact .inl rfl
      · cases h2
    · rcases h2 with rfl | ⟨_, _, _, h2, _⟩
      · exact .inr (.inl ⟨rfl, h3⟩)
      · cases h2
    · refine .inr (.inr ⟨l, h3, ?_⟩)
      rw [he]; exact h2.repOb h4
  · obtain ⟨a, h1, h2⟩ := k.get.2 o ob ho
    obtain ⟨a', h1', h2'⟩ := k.get.2 o' ob' ho'
    exact H.apart o o' l l' a a' d d' hne h1 h1' (by rw [h2.live]; exact hl) (by rw [h2'.live]; exact hl')
theorem Fn.of_trW {P : Program} {M : Mode} {lv : List Nat → Keep} {f : FuncId} {F : Func} {own : Option Nat} {args : List TV} {h : List Ob} {r : TV} {h' : List Ob} (hm : P.follows .mixedOrders = true) (hf : P.funcs[f]? = some F) (hn : h.length ≤ own.getD 0)
    (hk : ∀ x st, M.kp x st → False) (ht : trF P M lv F own args h fun r' h'' => r' = r ∧ Wk h'' h') : Fn P f args h r h' := by
  intro ext w locs vals H hsz hrep
  refine (Fn.of_trG hm hf hn ht ext w locs vals H hsz hrep).mono ?_
  rintro e w' (⟨v, r', h'', locs', ⟨rfl, k⟩, h2, h3, h4⟩ | ⟨v, x, st, locs', h1, _⟩)
  rotate_left
  · exact (hk x st h1).elim
  obtain ⟨g1, g2⟩ := h3.weak k
  exact ⟨v, locs', h2, g1, by rw [show Bar ext locs' h' = Bar ext locs' h'' from funext fun b => propext (g2 b)]; exact h4⟩
theorem Fn.by_tr {P : Program} {M : Mode} {lv : List Nat → Keep} {f : FuncId} {F : Func} {own : Option Nat} {args : List TV} {h : List Ob} {r : TV} {h' : List Ob} {X : Prop} (hm : P.follows .mixedOrders = true) (hf : P.funcs[f]? = some F) (hn : h.length ≤ own.getD 0)
    (hk : ∀ x st, M.kp x st → False) (he : (trF P M lv F own args h fun r' h'' => r' = r ∧ h'' = h') = X) (H : X) : Fn P f args h r h' := Fn.of_tr hm hf hn hk (Eq.mpr he H)
theorem Fn.by_trW {P : Program} {M : Mode} {lv : List Nat → Keep} {f : FuncId} {F : Func} {own : Option Nat} {args : List TV} {h : List Ob} {r : TV} {h' : List Ob} {X : Prop} (hm : P.follows .mixedOrders = true) (hf : P.funcs[f]? = some F) (hn : h.length ≤ own.getD 0)
    (hk : ∀ x st, M.kp x st → False) (he : (trF P M lv F own args h fun r' h'' => r' = r ∧ Wk h'' h') = X) (H : X) : Fn P f args h r h' := Fn.of_trW hm hf hn hk (Eq.mpr he H)
theorem LoopAt.by_tr {P : Program} {M : Mode} {lv : List Nat → Keep} {F : Func} {own : Option Nat} {R : TV → List Ob → Prop} {path : List Nat} {st : St} {X : Prop} (hm : P.follows .mixedOrders = true) (he : Round P M lv F own R path st = X) (H : X) : LoopAt P M lv F own R path st :=
  LoopAt.intro hm (Eq.mpr he H)
end Go.Proofs.YtejefchehdifhaaGreatDoor.Ev
end
section
namespace Go.Proofs.YtejefchehdifhaaGreatDoor.Ev
open Go
def lvOf : List (List Nat × Keep) → List Nat → Keep
  | [], _ => ⟨0, 0, [], false, false⟩
  | (p, k) :: r, q => if p = q then k else lvOf r q
def sigOf : List (Nat × List Sig) → FuncId → List Sig
  | [], _ => []
  | (f, l) :: r, g => if f = g then l else sigOf r g
def modeOf (l : List Nat) (s : List (Nat × List Sig)) : Mode := ⟨fun g => l.contains g, sigOf s, 0, fun _ => false, fun _ _ => False, false⟩
def modeC (l : List Nat) (s : List (Nat × List Sig)) : Mode := ⟨fun g => l.contains g, sigOf s, 0, fun _ => false, fun _ _ => False, true⟩
end Go.Proofs.YtejefchehdifhaaGreatDoor.Ev
end
section
set_option linter.unusedVariables false
set_option linter.unusedSimpArgs false
namespace Go.Proofs.YtejefchehdifhaaGreatDoor.Ev
open Go Go.Proofs Go.ChangeShapes Go.WideShapes Go.RowKit
inductive Ty (P : Program) : TypeId → List FV → Prop where
  | bool {t : TypeId} (b : Bool) (h : P.underlying t = some .bool) : Ty P t [.bool b]
  | int {t : TypeId} {k : IntKind} (n : Int) (h : P.underlying t = some (.int k)) (h0 : k.min ≤ n) (h1 : n ≤ k.max) : Ty P t [.int k n]
  | str {t : TypeId} (s : ByteArray) (h : P.underlying t = some .string) (h1 : s.size ≤ reachBytes) : Ty P t [.str s]
  | sl {t e : TypeId} (es : List (List FV)) (h : P.underlying t = some (.slice e)) (h1 : es.length * P.bytesOf e ≤ reachBytes) (h2 : ∀ x ∈ es, Ty P e x) : Ty P t [.sl (P.cellsOf e) es]
  | struct {t : TypeId} {fs : Array Field} (parts : List (List FV)) (h : P.underlying t = some (.struct fs)) (h1 : parts.length = fs.size) (h2 : ∀ (i : Nat) (f : Field) (x : List FV), fs[i]? = some f → parts[i]? = some x → Ty P f.type x) : Ty P t parts.flatten
def layB (P : Program) (S : List TypeId) : List Field → Nat → Nat → Bool
  | [], off, n => off == n
  | f :: r, off, n => f.offset == off && S.contains f.type && layB P S r (off + P.cellsOf f.type) n
def closedOne (P : Program) (S : List TypeId) (t : TypeId) : Bool :=
  match P.underlying t with
  | some .bool | some (.int _) | some .string => P.cellsOf t == 1
  | some (.slice e) => P.cellsOf t == 1 && S.contains e && decide (0 < P.cellsOf e)
  | some (.struct fs) => layB P S fs.toList 0 (P.cellsOf t)
  | _ => false
def closedB (P : Program) (S : List TypeId) : Bool := S.all (closedOne P S)
theorem listChoose {α : Type} : ∀ (n : Nat) (p : Nat → α → Prop), (∀ i, i < n → ∃ x, p i x) → ∃ l : List α, l.length = n ∧ ∀ (i : Nat) (x : α), l[i]? = some x → p i x
  | 0, p, h => ⟨[], rfl, by simp⟩
  | n + 1, p, h => by
    obtain ⟨x, hx⟩ := h 0 (by omega)
    obtain ⟨l, h1, h2⟩ := listChoose n (fun i => p (i + 1)) (fun i hi => h (i + 1) (by omega))
    refine ⟨x :: l, by simp [h1], fun i y hy => ?_⟩
    cases i with
    | zero => cases hy; exact hx
    | succ i => exact h2 i y hy
theorem weightsAll_mem {H : Type} {P : Program} {e : TypeId} : ∀ {ds : List (DataW H)} {d : DataW H} {n : Nat}, d ∈ ds → n ∈ d.weights P e → n ∈ DataW.weightsAll P e ds
  | x :: ds, d, n, h, hn => by
    rw [DataW.weightsAll]
    rcases List.mem_cons.1 h with rfl | h
    · exact List.mem_append_left _ hn
    · exact List.mem_append_right _ (weightsAll_mem h hn)
mutual
def bulkD {H : Type} : DataW H → Nat
  | .lit (.string bytes) => bytes.length + 1
  | .lit _ => 1
  | .nil => 1
  | .ptr d => bulkD d + 1
  | .slice elems spare => bulkDs elems + bulkDs spare + 1
  | .agg parts => bulkDs parts + 1
  | .iface _ d => bulkD d + 1
  | .map _ => 1
  | .held _ => 1
def bulkDs {H : Type} : List (DataW H) → Nat
  | [] => 0
  | d :: r => bulkD d + bulkDs r
end
mutual
def FV.bulk : FV → Nat
  | .str s => s.size + 1
  | .sl _ es => FV.bulkE es + 1
  | _ => 1
def FV.bulkE : List (List FV) → Nat
  | [] => 0
  | e :: r => FV.bulkL e + FV.bulkE r
def FV.bulkL : List FV → Nat
  | [] => 0
  | x :: r => x.bulk + FV.bulkL r
end
theorem bulkL_app : ∀ (a b : List FV), FV.bulkL (a ++ b) = FV.bulkL a + FV.bulkL b
  | [], b => by simp [FV.bulkL]
  | x :: a, b => by simp only [List.cons_append, FV.bulkL, bulkL_app a b]; omega
theorem bulkE_le {H : Type} : ∀ (es : List (List FV)) (ds : List (DataW H)), es.length = ds.length → (∀ (i : Nat) (x : List FV) (d : DataW H), es[i]? = some x → ds[i]? = some d → FV.bulkL x ≤ bulkD d) → FV.bulkE es ≤ bulkDs ds
  | [], ds, _, _ => by simp [FV.bulkE]
  | x :: es, [], hl, _ => by simp at hl
  | x :: es, d :: ds, hl, h => by
    have h1 := h 0 x d rfl rfl
    have h2 := bulkE_le es ds (by simpa using hl) (fun i x d hx hd => h (i + 1) x d hx hd)
    simp only [FV.bulkE, bulkDs]
    omega
section
variable {H : Type} {enc : TypeId × Value → H} {P : Program} {W : World} {base : Nat} {spare : Nat → Bool} {held : Bool} {S : List TypeId}
def Cells (W : World) (fs : List FV) (cs : List Value) : Prop := fs.length = cs.length ∧ ∀ (j : Nat) (x : FV) (v : Value), fs[j]? = some x → cs[j]? = some v → RF W (fun _ => False) x v
theorem opened_fields {fuel : Nat} (ih : ∀ (t : TypeId) (cs : List Value) (y : DataW H × List MemPlace), S.contains t = true → DataW.trod enc P W base spare held fuel t cs = some y → (∀ n ∈ y.1.weights P t, n ≤ reachBytes) → ∃ fs, Ty P t fs ∧ fs.length = P.cellsOf t ∧ Cells W fs cs ∧ FV.bulkL fs ≤ bulkD y.1) :
    ∀ (l : List Field) (off : Nat) (cs : List Value) (xs : List (DataW H × List MemPlace)), layB P S l off cs.length = true → off ≤ cs.length → (l.mapM fun f => DataW.trod enc P W base spare held fuel f.type ((cs.drop f.offset).take (P.cellsOf f.type))) = some xs →
      (∀ n ∈ DataW.weightsEach P (l.map (·.type)) (xs.map (·.1)), n ≤ reachBytes) →
      ∃ parts : List (List FV), parts.length = l.length ∧ (∀ (i : Nat) (f : Field) (x : List FV), l[i]? = some f → parts[i]? = some x → Ty P f.type x) ∧ Cells W parts.flatten (cs.drop off) ∧ FV.bulkL parts.flatten ≤ bulkDs (xs.map (·.1))
  | [], off, cs, xs, hl, ho, hm, hw => by
    have : off = cs.length := by simpa [layB] using hl
    subst this
    exact ⟨[], rfl, by simp, by simp [Cells], by simp [FV.bulkL]⟩
  | f :: l, off, cs, xs, hl, ho, hm, hw => by
    simp only [layB, Bool.and_eq_true, beq_iff_eq] at hl
    obtain ⟨⟨hfo, hS⟩, hl⟩ := hl
    rw [List.mapM_cons] at hm
    simp only [Option.bind_eq_bind, Option.bind_eq_some_iff, Option.pure_def, Option.some.injEq] at hm
    obtain ⟨y, hy, ys, hys, rfl⟩ := hm
    simp only [List.map_cons, DataW.weightsEach] at hw
    obtain ⟨fs, h1, hcl, ⟨h2, h3⟩, hbk⟩ := ih f.type _ y hS hy (fun n hn => hw n (List.mem_append_left _ hn))
    rw [hfo] at h2 h3
    have hle : off + P.cellsOf f.type ≤ cs.length := by
      rw [hcl, List.length_take, List.length_drop] at h2
      omega
    obtain ⟨parts, g1, g2, ⟨g3, g4⟩, gbk⟩ := opened_fields ih l _ cs ys hl hle hys (fun n hn => hw n (List.mem_append_right _ hn))
    refine ⟨fs :: parts, by simp [g1], fun i f' x hf hx => ?_, ⟨?_, fun j x v hx hv => ?_⟩, by rw [List.flatten_cons, bulkL_app, List.map_cons, bulkDs]; omega⟩
    · cases i with
      | zero => cases hf; cases hx; exact h1
      | succ i => exact g2 i f' x hf hx
    · simp only [List.flatten_cons, List.length_append, g3, hcl, List.length_drop]
      omega
    · rw [List.flatten_cons] at hx
      by_cases hj : j < fs.length
      · rw [List.getElem?_append_left hj] at hx
        refine h3 j x v hx ?_
        rw [List.getElem?_take, if_pos (by omega)]
        exact hv
      · rw [List.getElem?_append_right (by omega)] at hx
        refine g4 (j - fs.length) x v hx ?_
        rw [List.getElem?_drop] at hv ⊢
        rw [← hv]
        congr 1
        omega
theorem opened (hS : closedB P S = true) : ∀ (fuel : Nat) (t : TypeId) (cs : List Value) (y : DataW H × List MemPlace), S.contains t = true → DataW.trod enc P W base spare held fuel t cs = some y → (∀ n ∈ y.1.weights P t, n ≤ reachBytes) →
    ∃ fs, Ty P t fs ∧ fs.length = P.cellsOf t ∧ Cells W fs cs ∧ FV.bulkL fs ≤ bulkD y.1
  | 0, t, cs, y, _, h, _ => by simp [DataW.trod] at h
  | fuel + 1, t, cs, y, ht, h, hw => by
    have hc : closedOne P S t = true := List.all_eq_true.1 hS t (by simpa using ht)
    unfold closedOne at hc
    unfold DataW.trod at h
    have one : ∀ (x : FV) (v : Value), RF W (fun _ => False) x v → Cells W [x] [v] := fun x v hr => ⟨rfl, fun j y u hy hu => by
      cases j with
      | zero => cases hy; cases hu; exact hr
      | succ j => simp at hy⟩
    cases hu : P.underlying t with
    | none => simp [hu] at hc
    | some ds =>
      cases ds with
      | bool =>
        simp only [hu] at h hc
        split at h <;> simp_all
        rename_i b
        exact ⟨_, .bool b hu, by simp, one _ _ (.bool _), by simp [FV.bulkL, FV.bulk, ← h, bulkD]⟩
      | int k =>
        simp only [hu] at h hc
        split at h <;> simp_all
        rename_i k' n _
        obtain ⟨⟨rfl, hwf⟩, rfl⟩ := h
        simp only [Lit.wf, Bool.and_eq_true, decide_eq_true_eq] at hwf
        exact ⟨_, .int n hu hwf.1 hwf.2, by simp, one _ _ (.int _ _), by simp [FV.bulkL, FV.bulk, bulkD]⟩
      | string =>
        simp only [hu] at h hc
        split at h <;> simp_all
        rename_i s
        obtain ⟨_, rfl⟩ := h
        refine ⟨_, .str s hu ?_, by simp, one _ _ (.str _), by simp [FV.bulkL, FV.bulk, bulkD]⟩
        have := hw s.data.toList.length (by simp [DataW.weights])
        simpa using this
      | slice e =>
        simp only [hu, Bool.and_eq_true, decide_eq_true_eq] at h hc
        obtain ⟨⟨hc1, hSe⟩, hpos⟩ := hc
        split at h <;> simp_all
        · rename_i e2 _
          subst h
          exact ⟨_, .sl [] hu (by simp) (by simp), by simp, one _ _ (.slN _ _ _), by simp [FV.bulkL, FV.bulk, FV.bulkE, bulkD]⟩
        · rename_i e2 a len cap hee
          subst hee
          obtain ⟨⟨hb, hlc, hcm⟩, h⟩ := h
          rw [Option.bind_eq_some_iff] at h
          obtain ⟨elems, he, h⟩ := h
          obtain ⟨rest, hr, rfl⟩ := Option.map_eq_some_iff.1 h
          simp only [DataW.weights, hu] at hw
          have hlen := mapM_some_length he
          simp only [List.length_range] at hlen
          have hget := mapM_some_get he
          have hel : ∀ i, i < len → ∃ x : List FV, Ty P e x ∧ x.length = P.cellsOf e ∧ ∃ vs : List Value, (W.cells? base (a.add (i * P.cellsOf e)) (P.cellsOf e)) = some vs ∧ Cells W x vs ∧ ∀ d, elems[i]? = some d → FV.bulkL x ≤ bulkD d.1 := by
            intro i hi
            have h1 := hget i i (by simp [hi])
            obtain ⟨d, hd⟩ : ∃ d, elems[i]? = some d := ⟨_, List.getElem?_eq_getElem (by omega)⟩
            rw [hd, Option.bind_eq_some_iff] at h1
            obtain ⟨vs, h2, h3⟩ := h1
            obtain ⟨fs, k1, k2, k3, k4⟩ := opened hS fuel e vs d (by simpa using hSe) h3 (fun n hn => hw n (List.mem_cons_of_mem _ (List.mem_append_left _ (weightsAll_mem (List.mem_map.2 ⟨d, List.mem_of_getElem? hd, rfl⟩) hn))))
            exact ⟨fs, k1, k2, vs, h2, k3, fun d' hd' => by rw [hd] at hd'; cases hd'; exact k4⟩
          obtain ⟨es, e1, e2⟩ := listChoose len _ hel
          have hweight : es.length * P.bytesOf e ≤ reachBytes := by
            have := hw _ List.mem_cons_self
            simp only [List.length_map] at this
            refine Nat.le_trans (Nat.mul_le_mul_right _ ?_) this
            omega
          have hty : Ty P t [.sl (P.cellsOf e) es] := .sl es hu hweight (fun x hx => by
            obtain ⟨i, hi⟩ := List.mem_iff_getElem?.1 hx
            exact (e2 i x hi).1)
          have hbulk : FV.bulkE es ≤ bulkDs (elems.map (·.1)) := bulkE_le es _ (by simp [e1, hlen]) (fun i x d hx hd => by
            rw [List.getElem?_map, Option.map_eq_some_iff] at hd
            obtain ⟨y, hy, rfl⟩ := hd
            obtain ⟨_, _, vs, _, _, h5⟩ := e2 i x hx
            exact h5 y hy)
          refine ⟨_, hty, by simp [hc1], one _ _ ?_, by simp only [FV.bulkL, FV.bulk, bulkD]; omega⟩
          rcases Nat.eq_zero_or_pos len with h0 | h0
          · have : es = [] := List.length_eq_zero_iff.1 (by omega)
            subst this
            subst h0
            exact .slN _ _ _
          ·
            have hcell : ∀ i vs, W.cells? base (a.add (i * P.cellsOf e)) (P.cellsOf e) = some vs → ∀ j, j < P.cellsOf e → ∃ v, vs[j]? = some v ∧ W.cell? ((a.add (i * P.cellsOf e)).add j) = some v := by
              intro i vs hvs j hj
              unfold World.cells? at hvs
              split at hvs
              · have h1 := mapM_some_length hvs
                simp only [List.length_range] at h1
                have h2 := mapM_some_get hvs j j (by simp [hj])
                exact ⟨vs[j]'(by omega), List.getElem?_eq_getElem (by omega), by rw [h2, List.getElem?_eq_getElem (by omega)]⟩
              · cases hvs
            obtain ⟨b, off, spot⟩ := a
            have hspot : spot = none := by
              obtain ⟨x, hx⟩ : ∃ x, es[0]? = some x := ⟨_, List.getElem?_eq_getElem (by omega)⟩
              obtain ⟨_, _, vs, h1, _⟩ := e2 0 x hx
              obtain ⟨v, _, h2⟩ := hcell 0 vs h1 0 hpos
              rw [Nat.zero_mul] at h2
              simp only [Addr.add, if_true] at h2
              unfold World.cell? at h2
              simp only at h2
              cases spot with
              | none => rfl
              | some s => split at h2 <;> simp at h2
            subst hspot
            have hrow : ∀ (i : Nat) (x : List FV) (j : Nat) (f : FV), es[i]? = some x → x[j]? = some f → ∃ v, W.cell? ⟨b, off + i * P.cellsOf e + j, none⟩ = some v ∧ RF W (fun _ => False) f v := by
              intro i x j f hx hf
              obtain ⟨_, h2, vs, h3, ⟨h4, h5⟩, _⟩ := e2 i x hx
              have hj : j < P.cellsOf e := by rw [← h2]; exact (List.getElem?_eq_some_iff.1 hf).1
              obtain ⟨v, h6, h7⟩ := hcell i vs h3 j hj
              rw [Addr.add_lit, Addr.add_lit] at h7
              exact ⟨v, h7, h5 j f v hf h6⟩
            have : RF W (fun _ => False) (.sl (P.cellsOf e) es) (.slice (some ⟨b, off, none⟩) es.length cap) := by
              refine .sl es b off cap (P.cellsOf e) (fun i j => (W.cell? ⟨b, off + i * P.cellsOf e + j, none⟩).getD undef) (fun _ _ _ _ _ _ h => h) (by omega) (fun i x hx => (e2 i x hx).2.1) (fun i x j f hx hf => ?_) (fun i x j f hx hf => ?_)
              · obtain ⟨v, h1, _⟩ := hrow i x j f hx hf
                rw [h1]; rfl
              · obtain ⟨v, h1, h2⟩ := hrow i x j f hx hf
                rw [h1]; exact h2
            rw [e1] at this
            exact this
      | struct fs =>
        simp only [hu] at h hc
        split at h
        · rename_i hcs
          obtain ⟨xs, hxs, rfl⟩ := Option.map_eq_some_iff.1 h
          simp only [DataW.weights, hu] at hw
          rw [← hcs] at hc
          obtain ⟨parts, g1, g2, g3, g5⟩ := opened_fields (fun t cs y h1 h2 h3 => opened hS fuel t cs y h1 h2 h3) fs.toList 0 cs xs hc (by omega) hxs hw
          rw [List.drop_zero] at g3
          refine ⟨_, .struct parts hu (by simpa using g1) (fun i f x hf hx => g2 i f x (by simpa using hf) hx), ?_, g3, by simp only [bulkD]; omega⟩
          rw [g3.1, hcs]
        · cases h
      | _ => simp [hu] at hc
def TV.bulk : TV → Nat
  | .one (.fz f) => f.bulk
  | .agg cs => (cs.map fun | .fz f => f.bulk | _ => 0).sum
  | _ => 0
theorem bulk_agg : ∀ (fs : List FV), TV.bulk (.agg (fs.map .fz)) = FV.bulkL fs
  | [] => rfl
  | f :: fs => by
    have := bulk_agg fs
    simp only [TV.bulk, List.map_cons, List.sum_cons, FV.bulkL] at this ⊢
    rw [this]
def bulkA : List TV → Nat
  | [] => 0
  | x :: r => x.bulk + bulkA r
def TyV (P : Program) (t : TypeId) (x : TV) : Prop :=
  (∃ fs : List FV, x = .agg (fs.map .fz) ∧ Ty P t fs ∧ ∃ ds, P.underlying t = some (.struct ds)) ∨ ∃ f : FV, x = .one (.fz f) ∧ Ty P t [f]
theorem openedV (hS : closedB P S = true) {t : TypeId} {v : Value} {d : DataW H} {ps : List MemPlace} {r : Reach} {b0 : Nat} (ht : S.contains t = true) (hv : Value.okWide P W r b0 t v) (h : DataW.Trod enc P W base spare held t v d ps) (hw : ∀ n ∈ d.weights P t, n ≤ reachBytes) :
    ∃ x, TyV P t x ∧ RT W (fun _ => False) (fun _ => none) x v ∧ x.bulk ≤ bulkD d := by
  obtain ⟨fuel, h⟩ := h
  obtain ⟨fs, h1, h2, ⟨h3, h4⟩, h5⟩ := opened hS fuel t _ (d, ps) ht h hw
  have hc : closedOne P S t = true := List.all_eq_true.1 hS t (by simpa using ht)
  unfold closedOne at hc
  have single : P.cellsOf t = 1 → v.cells = #[v] → ∃ x, TyV P t x ∧ RT W (fun _ => False) (fun _ => none) x v ∧ x.bulk ≤ bulkD d := by
    intro hc hv
    rw [hc] at h2
    obtain ⟨f, rfl⟩ := List.length_eq_one_iff.1 h2
    exact ⟨.one (.fz f), .inr ⟨f, rfl, h1⟩, h4 0 f v rfl (by rw [hv]; rfl), by simpa [TV.bulk, FV.bulkL] using h5⟩
  cases hu : P.underlying t with
  | none => simp [hu] at hc
  | some ds =>
    cases ds with
    | bool =>
      obtain ⟨b, rfl⟩ := okWide_bool hu hv
      exact single (by simpa [hu] using hc) rfl
    | int k =>
      obtain ⟨n, rfl⟩ := okWide_int hu hv
      exact single (by simpa [hu] using hc) rfl
    | string =>
      obtain ⟨s, rfl⟩ := okWide_string hu hv
      exact single (by simpa [hu] using hc) rfl
    | slice e =>
      obtain ⟨a, len, cap, rfl⟩ := okWide_slice hu hv
      simp only [hu, Bool.and_eq_true, beq_iff_eq] at hc
      exact single hc.1.1 rfl
    | struct fs' =>
      obtain ⟨cs, rfl, _⟩ := okWide_struct hu hv
      refine ⟨.agg (fs.map .fz), .inl ⟨fs, rfl, h1, _, hu⟩, ⟨cs.toList, by simp [mkV], by simpa [Value.cells] using h3.symm, by simp, fun j x hx => ?_⟩, by rw [bulk_agg]; exact h5⟩
      simp only [List.getElem?_map, Option.map_eq_some_iff] at hx
      obtain ⟨f, hf, rfl⟩ := hx
      have hj : j < fs.length := (List.getElem?_eq_some_iff.1 hf).1
      have hj' : j < cs.toList.length := by have : fs.length = cs.toList.length := h3; omega
      exact ⟨cs.toList[j], List.getElem?_eq_getElem hj', h4 j f _ hf (List.getElem?_eq_getElem hj')⟩
    | _ => simp [hu] at hc
inductive TyAll (P : Program) : List TypeId → List TV → Prop where
  | nil : TyAll P [] []
  | cons {t : TypeId} {ts : List TypeId} {x : TV} {xs : List TV} (h : TyV P t x) (hs : TyAll P ts xs) : TyAll P (t :: ts) (x :: xs)
theorem openedAll (hS : closedB P S = true) {r : Reach} {b0 : Nat} : ∀ {ts us : List TypeId} {vs : List Value} {ds gs : List (DataW H)} {ps : List MemPlace}, (∀ t ∈ ts, S.contains t = true) → (∀ (j : Nat) (t : TypeId) (v : Value), ts[j]? = some t → vs[j]? = some v → Value.okWide P W r b0 t v) →
    DataW.TrodAll enc P W base spare held ts vs ds ps → (∀ n ∈ DataW.weightsEach P (ts ++ us) (ds ++ gs), n ≤ reachBytes) →
    ∃ xs, TyAll P ts xs ∧ xs.length = vs.length ∧ (∀ (i : Nat) (x : TV), xs[i]? = some x → ∃ v, vs[i]? = some v ∧ RT W (fun _ => False) (fun _ => none) x v) ∧ bulkA xs ≤ bulkDs ds
  | [], us, vs, ds, gs, ps, _, _, h, _ => by
    cases vs with
    | nil => exact ⟨[], .nil, rfl, by simp, by simp [bulkA]⟩
    | cons _ _ => cases ds <;> exact h.elim
  | t :: ts, us, vs, ds, gs, ps, ht, hv, h, hw => by
    obtain ⟨v, vs', d, ds', p, q, rfl, rfl, rfl, h1, h2⟩ := trodAll_cons h
    simp only [List.cons_append, DataW.weightsEach] at hw
    obtain ⟨x, g1, g2, g3⟩ := openedV hS (ht t List.mem_cons_self) (hv 0 t v rfl rfl) h1 (fun n hn => hw n (List.mem_append_left _ hn))
    obtain ⟨xs, k1, k2, k3, k4⟩ := openedAll hS (fun u hu => ht u (List.mem_cons_of_mem _ hu)) (fun j u w hu hw' => hv (j + 1) u w hu hw') h2 (fun n hn => hw n (List.mem_append_right _ hn))
    refine ⟨x :: xs, .cons g1 k1, by simp [k2], fun i y hy => ?_, by simp only [bulkA, bulkDs]; omega⟩
    cases i with
    | zero => cases hy; exact ⟨v, rfl, g2⟩
    | succ i => exact k3 i y hy
theorem trodAll_below (hl : laidOutB P = true) {W' : World} (hb : Below W.heap.size W W') : ∀ {ts : List TypeId} {vs : List Value} {ds : List (DataW H)} {ps : List MemPlace}, (∀ t ∈ ts, P.readableRec t = true ∧ t < P.types.size) →
    DataW.TrodAll enc P W 0 (fun _ => true) true ts vs ds ps → DataW.TrodAll enc P W' 0 (fun b => decide (b < W.heap.size)) true ts vs ds ps
  | [], vs, ds, ps, _, h => by
    cases vs <;> cases ds <;> first | exact h | exact h.elim
  | t :: ts, vs, ds, ps, ht, h => by
    obtain ⟨v, vs', d, ds', p, q, rfl, rfl, rfl, h1, h2⟩ := trodAll_cons h
    have lt : ∀ x ∈ p, x.block < W.heap.size := by obtain ⟨m, hm⟩ := h1; exact DataW.trod_lt m _ _ _ hm
    have := ht t List.mem_cons_self
    exact trodAll_cons_mk (Below.trod hl this.1 this.2 h1 hb lt) (trodAll_below hl hb (fun u hu => ht u (List.mem_cons_of_mem _ hu)) h2)
end
theorem Fn.door {P : Program} {f : FuncId} {xs : List TV} {W : World} (hG : Glob W) (F : Fn P f xs [] (.one (.fz (.bool true))) []) {args : Array Value} (hlen : xs.length = args.size)
    (hx : ∀ (i : Nat) (x : TV), xs[i]? = some x → ∃ v, args[i]? = some v ∧ RT W (fun _ => False) (fun _ => none) x v) :
    Calls P f args W fun e W' => e = .returned (.bool true) ∧ Below W.heap.size W W' := by
  have hown : ∀ (locs : Nat → Option Loc) b, ¬ ownB locs [] b := by rintro locs b ⟨o, l, d, ob, h1, _⟩; simp at h1
  have H : RepH P (fun _ => False) W ⟨ownB (fun _ => none) [], fun _ => none, []⟩ (fun _ => none) [] W :=
    ⟨fun _ _ => rfl, fun o ob ho => by simp at ho, fun o o' l l' ob ob' d d' _ ho => by simp at ho, fun b hb => hb.elim, fun b hb => hb.elim, fun b _ hb => hb, Since.refl _ _, ⟨hG, fun b hb => absurd hb (hown _ b), fun b hb => hb.elim⟩, fun _ _ h => by cases h⟩
  refine (F (fun _ => False) W (fun _ => none) args H hlen.symm (fun i x hi => ?_)).mono ?_
  · obtain ⟨v, h1, h2⟩ := hx i x hi
    exact ⟨v, h1, h2.later ⟨fun _ _ _ => rfl, fun b _ hb => hb.elim id (fun hb => absurd hb (hown _ b))⟩ (fun _ _ h => h)⟩
  · rintro e w' ⟨v, locs', rfl, H', hr⟩
    cases hr
    exact ⟨rfl, ⟨H'.since.os, H'.since.tape, H'.since.output, H'.since.size, fun k hk => H'.since.block k hk (hown _ k)⟩⟩
theorem laid_mem {P : Program} {w : World} : ∀ {l : List (String × DataW Unit)} {ps : List MemPlace} {n : String} {d : DataW Unit}, DataW.LaidVars P w l ps → (n, d) ∈ l →
    ∃ g t cs fuel p, P.globalNamed n = some g ∧ (P.globals[g]?).map (·.type) = some t ∧ w.var? P n = some cs ∧ DataW.trod (fun _ => ()) P w 0 (fun _ => true) false fuel t cs.toList = some (d, p)
  | [], ps, n, d, _, h => by cases h
  | (m, e) :: l, ps, n, d, hl, h => by
    obtain ⟨g, t, cs, fuel, p, q, h1, h2, h3, h4, h5, _⟩ := hl
    rcases List.mem_cons.1 h with h | h
    · cases h; exact ⟨g, t, cs, fuel, p, h1, h2, h3, h4⟩
    · exact laid_mem h5 h
theorem var_heap {P : Program} {w : World} {n : String} {g : Nat} {cs : Array Value} (hg : P.globalNamed n = some g) (hv : w.var? P n = some cs) : ∃ t z, w.heap[g]? = some (.cells cs t z) := by
  unfold World.var? at hv
  rw [hg] at hv
  simp only [Option.bind_some] at hv
  split at hv
  · rename_i c t z h
    cases hv
    exact ⟨t, z, h⟩
  · cases hv
theorem tabAt_ints_of {P : Program} {W : World} {l : List (String × DataW Unit)} (h : laidMet P l W) {n : String} {k : IntKind} {zs : List Int} (hm : (n, Lib.tabData k zs) ∈ l) {g : Nat} {t e : TypeId} {c : Nat} (hg : P.globalNamed n = some g) (hty : (P.globals[g]?).map (·.type) = some t)
    (ht : P.underlying t = some (.array c e)) (he : P.underlying e = some (.int k)) (hce : P.cellsOf e = 1) (hct : P.cellsOf t = c) : TabAt W (fun _ => True) g (zs.map fun z => FV.int k z) := by
  obtain ⟨ps, hl, _⟩ := h
  obtain ⟨g', t', cs, fuel, p, h1, h2, h3, h4⟩ := laid_mem hl hm
  obtain rfl := Option.some.inj (hg.symm.trans h1)
  obtain rfl := Option.some.inj (hty.symm.trans h2)
  have hc := Lib.cells_of_tab ht he hce hct h4
  obtain ⟨ty, z, hh⟩ := var_heap h1 h3
  refine ⟨cs, ty, z, hh, by rw [← Array.length_toList, hc]; simp, fun j f hf => ?_⟩
  simp only [List.getElem?_map, Option.map_eq_some_iff] at hf
  obtain ⟨x, hx, rfl⟩ := hf
  exact ⟨.int k x, by rw [← Array.getElem?_toList, hc]; simp [hx], .int _ _⟩
def isIfc : DataW Unit → Bool
  | .iface _ _ => true
  | _ => false
theorem tabAt_ifc_of {P : Program} {W : World} {l : List (String × DataW Unit)} (h : laidMet P l W) {n : String} {d : DataW Unit} (hd : isIfc d = true) (hm : (n, d) ∈ l) {g : Nat} {t : TypeId} {ms : Array (String × TypeId)} (hg : P.globalNamed n = some g) (hty : (P.globals[g]?).map (·.type) = some t)
    (ht : P.underlying t = some (.interface ms)) : TabAt W (fun _ => True) g [.ifc true] := by
  obtain ⟨a, b, rfl⟩ : ∃ a b, d = .iface a b := by
    cases d <;> first | exact ⟨_, _, rfl⟩ | cases hd
  obtain ⟨ps, hl, _⟩ := h
  obtain ⟨g', t', cs, fuel, p, h1, h2, h3, h4⟩ := laid_mem hl hm
  obtain rfl := Option.some.inj (hg.symm.trans h1)
  obtain rfl := Option.some.inj (hty.symm.trans h2)
  obtain ⟨ty, z, hh⟩ := var_heap h1 h3
  cases fuel with
  | zero => simp [DataW.trod] at h4
  | succ fuel =>
    unfold DataW.trod at h4
    simp only [ht] at h4
    clear hl
    split at h4 <;> simp_all
    rename_i u v _ _ hcs
    refine ⟨cs, ty, z, hh, by rw [← Array.length_toList, hcs]; rfl, fun j f hf => ?_⟩
    cases j with
    | zero =>
      cases hf
      refine ⟨.iface u v, ?_, .ifcS _ _⟩
      rw [← Array.getElem?_toList, hcs]; rfl
    | succ j => simp at hf
end Go.Proofs.YtejefchehdifhaaGreatDoor.Ev
end
