/-
 Part of a claim: definitions and lemmas that its theorem leans on, packed by wip/tools/pack.py.
-/
import Derived.Test.YtenkkekooimpjaaGreatDoorZS10
set_option linter.unusedVariables false
set_option linter.unusedSimpArgs false
section
set_option linter.unusedVariables false
set_option linter.unusedSimpArgs false
namespace Go.Proofs.YtenkkekooimpjaaGreatDoor.Ev
open Go
section
variable {ws : List Tok} {en dp : Int} {p : Nat}
theorem wrapP (hw : ws.length ≤ 100000000) (hp : p ≤ ws.length) : IntKind.wrap .i64 (((p : Nat) : Int) + 1) = ((p + 1 : Nat) : Int) := w64 (by omega) (by omega)
theorem Outc.shift {q : Nat} {R : TV → List Ob → Prop} {RX : FV → List Ob → Prop} {α β : Type} {res : RdR α} {res' : RdR β} {k : α → TV × List Ob} {k' : β → TV × List Ob} (ho : Outc ws en dp p R RX res k)
  (h : match res' with | .bad a e => res = .bad a e | .ok v n nd => ∃ v' n', res = .ok v' n' nd ∧ k v' = k' v ∧ p + n' = q + n) : Outc ws en dp q R RX res' k' := by
 cases res' with
 | bad a e => simp only at h; rw [h] at ho; exact ho
 | ok v n nd =>
  obtain ⟨v', n', h1, h2, h3⟩ := h
  rw [h1] at ho
  unfold Outc at ho ⊢
  simp only at ho ⊢
  rw [← h2, ← h3]
  exact ho
theorem tok_row (t : Tok) : ∃ k s, ∃ x : Dt, ∃ a : Nat, t = ⟨k, s, x, a⟩ := ⟨t.kind, t.name, t.d, t.at_, rfl⟩
theorem rdW_all (hw : ws.length ≤ 100000000) (hpl : Plain ws) (hd0 : 0 ≤ dp) (hd1 : dp ≤ 64) : ∀ (N p : Nat), ws.length - p = N → p ≤ ws.length → RdW ws en dp p := by
 intro N
 induction N using Nat.strongRecOn with
 | _ N ih =>
  intro p hN hp
  have sub : ∀ q, p < q → q ≤ ws.length → RdW ws en dp q := fun q h1 h2 => ih (ws.length - q) (by omega) q rfl h2
  have ep := wrapP hw hp
  have hB : ∀ q, RdB dp en (ws.drop q) := fun q => rdB_all dp en _ _ rfl (hpl.drop q)
  have hlen : ∀ q, (ws.drop q).length = ws.length - q := fun q => List.length_drop
  have hsl : ∀ (d nd : Int) (R : TV → List Ob → Prop) (RX : FV → List Ob → Prop), 0 ≤ d → d ≤ dp + 1 → 0 ≤ nd → nd ≤ 8192 → Outc ws en dp p R RX (skipR dp en (ws.drop p) d nd) kS → read_reader_skipsO_L0 R RX d (tkR ws) p en dp nd := by
   intro d nd R RX h0 h1 h2 h3 ho
   have hm := rdMore_ok ws p en dp nd
   unfold skipR at ho
   refine read_reader_skipsO_l0 ?_
   unfold read_reader_skipsO_R0
   refine ⟨_, _, _, _, _, _, hm, ?_⟩
   cases hdr : ws.drop p with
   | nil =>
    have hge : ¬ p < ws.length := fun h => by
     have := hlen p
     rw [hdr] at this
     simp at this; omega
    rw [hdr] at ho
    simp only at ho
    rw [decide_eq_false hge]
    exact ⟨fun h => (by cases h), fun _ => ho⟩
   | cons t r =>
    rw [hdr] at ho
    simp only at ho
    obtain ⟨g1, g2, rfl⟩ := tkR_get hdr
    rw [decide_eq_true g2]
    refine ⟨fun _ => ?_, fun h => (by cases h)⟩
    by_cases c : t.kind = 5
    ·rw [if_pos c] at ho
     have hb := (sub (p + 1) (by omega) g2).b ((t.at_ : Nat) : Int) d nd h0 h1 h2 h3
     cases hq : behR dp en (ws.drop (p + 1)) d nd with
     | bad a e =>
      rw [hq] at ho hb
      obtain ⟨k, s, ⟨xk, xt, xn, xl, xs, xa⟩, a', rfl⟩ := tok_row t
      simp only [Tok.row, Dt.row, List.cons_append, List.nil_append] at g1
      simp only at c
      rw [ep]
      refine ⟨by omega, _, _, _, _, _, _, _, _, _, g1, ?_⟩
      rw [beq_t, beq_f]
      exact ⟨fun _ => ⟨by omega, _, _, _, _, _, _, _, _, _, g1, .inl ⟨_, hb, ho⟩⟩, fun h => absurd c h⟩
     | ok x n nd1 =>
      rw [hq] at ho hb
      simp only at ho
      obtain ⟨b1, b2, b3, b4, b5⟩ := (hB (p + 1)).b _ _ _ _ _ h2 h3 hq
      rw [hlen] at b2
      have hl := (sub (p + 1 + n) (by omega) (by omega)).sl d nd1 R RX h0 h1 (by omega) b4 (by
       refine ho.shift ?_
       rw [List.drop_drop]
       cases skipR dp en (ws.drop (p + 1 + n)) d nd1 with
       | bad a e => rfl
       | ok u m nd2 => exact ⟨(), _, rfl, rfl, by omega⟩)
      obtain ⟨k, s, ⟨xk, xt, xn, xl, xs, xa⟩, a', rfl⟩ := tok_row t
      obtain ⟨yk, yt, yn, yl, ys, ya⟩ := x
      unfold Con kD at hb
      simp only [Tok.row, Dt.row, List.cons_append, List.nil_append, List.map_cons, List.map_nil] at g1 hb
      simp only at c
      rw [ep]
      refine ⟨by omega, _, _, _, _, _, _, _, _, _, g1, ?_⟩
      rw [beq_t, beq_f]
      exact ⟨fun _ => ⟨by omega, _, _, _, _, _, _, _, _, _, g1, .inr ⟨_, _, _, _, _, _, _, _, _, _, _, hb, hl⟩⟩, fun h => absurd c h⟩
    ·rw [if_neg c] at ho
     obtain ⟨k, s, ⟨xk, xt, xn, xl, xs, xa⟩, a', rfl⟩ := tok_row t
     simp only [Tok.row, Dt.row, List.cons_append, List.nil_append] at g1
     simp only at c
     refine ⟨by omega, _, _, _, _, _, _, _, _, _, g1, ?_⟩
     rw [beq_t, beq_f]
     exact ⟨fun h => absurd h c, fun _ => ho⟩
  have hs : ∀ (d nd : Int), 0 ≤ d → d ≤ dp + 1 → 0 ≤ nd → nd ≤ 8192 → Con ws en dp 40 [rdP, fzI .i64 d] p nd (skipR dp en (ws.drop p) d nd) kS := fun d nd h0 h1 h2 h3 =>
   Con.of (fun R RX => read_reader_skipsO_H R RX d (tkR ws) p en dp nd) (fun r h H => read_reader_skipsO_fn _ _ _ _ _ _ H) (fun x H => read_reader_skipsO_fx _ _ _ _ _ _ H) (fun R RX ho => hsl d nd R RX h0 h1 h2 h3 ho)
  have hdH : p < ws.length → ∀ (d nd : Int) (R : TV → List Ob → Prop) (RX : FV → List Ob → Prop), 0 ≤ d → d ≤ dp + 1 → 0 ≤ nd → nd ≤ 8192 →
    (∀ x n nd', datR dp en (ws.drop p) d nd = .ok x n nd' → R (fzD x) [rdO ws (p + n) en dp nd'] ∧ ∀ k ds a et, x = lsD k ds a → R (.agg [.fz (.int .i64 k), .fz (.str (ByteArray.mk #[])), .fz (.bool false), .ofl 1 1, .ofl 6 2, .fz (.int .i64 a)]) [rdO ws (p + n) en dp nd', .f 0 1 [], .f et 6 (Dt.rows ds)]) →
    (∀ a e, datR dp en (ws.drop p) d nd = .bad a e → RX (flt a e) [rdU]) → read_reader_datumO_H R RX d (tkR ws) p en dp nd := by
   intro hlt d nd R RX h0 h1 h2 h3 hR hX
   obtain ⟨res, hres⟩ : ∃ res, datR dp en (ws.drop p) d nd = res := ⟨_, rfl⟩
   rw [hres] at hR hX
   unfold read_reader_datumO_H
   cases hdr : ws.drop p with
   | nil =>
    have := hlen p
    rw [hdr] at this
    simp at this; omega
   | cons t r =>
    rw [hdr] at hres
    unfold datR at hres
    try simp only at hres
    obtain ⟨g1, g2, rfl⟩ := tkR_get hdr
    have hS := sub (p + 1) (by omega) g2
    obtain ⟨tk, s, ⟨xk, xt, xn, xl, xs, xa⟩, a', rfl⟩ := tok_row t
    simp only [Tok.row, Dt.row, List.cons_append, List.nil_append] at g1
    try simp only at hres
    refine ⟨by omega, _, _, _, _, _, _, _, _, _, g1, ?_⟩
    rw [beq_t, beq_f, beq_t, beq_f]
    by_cases c1 : tk = 2 ∨ tk = 4
    ·rw [if_pos c1] at hres
     subst hres
     exact ⟨fun _ => ⟨_, fail_ok _ _, hX _ _ rfl⟩, fun hn => ⟨fun _ => ⟨_, fail_ok _ _, hX _ _ rfl⟩, fun hn4 => absurd c1 (by omega)⟩⟩
    rw [if_neg c1] at hres
    refine ⟨fun h => absurd (.inl h) c1, fun _ => ⟨fun h => absurd (.inr h) c1, fun _ => ?_⟩⟩
    by_cases c2 : begE dp d nd ≠ 0
    ·rw [if_pos c2] at hres
     subst hres
     exact .inl ⟨_, begin_x ws p en dp nd _ d h2 h3 c2, hX _ _ rfl⟩
    rw [if_neg c2] at hres
    obtain ⟨b1, b2⟩ := begE_zero c2
    refine .inr ⟨_, _, _, _, _, begin_t ws p en dp nd _ d h2 h3 c2, ?_⟩
    have e2 : IntKind.wrap .i64 (d + 1) = d + 1 := w64 (by omega) (by omega)
    rw [beq_t, beq_f, beq_t, beq_f, beq_t, beq_f, ep, e2]
    by_cases c3 : tk = 7
    ·rw [if_pos c3] at hres
     subst hres
     have h7 := (hR _ _ _ rfl).1
     unfold fzD at h7
     simp only [Dt.row, List.map_cons, List.map_nil] at h7
     exact ⟨fun _ => h7, fun h => absurd c3 h⟩
    rw [if_neg c3] at hres
    refine ⟨fun h => absurd h c3, fun _ => ?_⟩
    by_cases c4 : tk = 6
    ·rw [if_pos c4] at hres
     refine ⟨fun _ => ?_, fun h => absurd c4 h⟩
     by_cases c5 : begE dp (d + 1) (nd + 1) ≠ 0
     ·rw [if_pos c5] at hres
      subst hres
      exact .inl ⟨_, begin_x ws (p + 1) en dp (nd + 1) _ (d + 1) (by omega) (by omega) c5, hX _ _ rfl⟩
     rw [if_neg c5] at hres
     obtain ⟨b3, b4⟩ := begE_zero c5
     have e3 : nd + 1 + 1 = nd + 2 := by omega
     have hbt := begin_t ws (p + 1) en dp (nd + 1) ((a' : Nat) : Int) (d + 1) (by omega) (by omega) c5
     rw [e3] at hbt
     refine .inr ⟨_, _, _, _, _, hbt, ?_⟩
     have hb := hS.b ((a' : Nat) : Int) (d + 1) (nd + 2) (by omega) (by omega) (by omega) (by omega)
     cases hq : behR dp en (ws.drop (p + 1)) (d + 1) (nd + 2) with
     | bad a e =>
      rw [hq] at hres hb
      simp only at hres
      subst hres
      exact .inl ⟨_, hb, hX _ _ rfl⟩
     | ok y n nd1 =>
      rw [hq] at hres hb
      simp only at hres
      subst hres
      have h7 := (hR _ _ _ rfl).2 1 [lf 4 s false [] a', y] a' 33 rfl
      obtain ⟨yk, yt, yn, yl, ys, ya⟩ := y
      unfold Con kD at hb
      simp only [lf, Dt.rows, Dt.row, List.map_cons, List.map_nil, ← Nat.add_assoc] at h7 hb
      exact .inr ⟨_, _, _, _, _, _, _, _, _, _, _, hb, h7⟩
    rw [if_neg c4] at hres
    refine ⟨fun h => absurd h c4, fun _ => ?_⟩
    by_cases c6 : tk = 3
    ·rw [if_pos c6] at hres
     refine ⟨fun _ => ?_, fun h => absurd c6 h⟩
     have hb := hS.i (d + 1) true (nd + 1) (by omega) (by omega) (by omega) (by omega)
     cases hq : insR dp en (ws.drop (p + 1)) (d + 1) true [] none (nd + 1) with
     | bad a e =>
      rw [hq] at hres hb
      simp only at hres
      subst hres
      exact .inl ⟨_, hb, hX _ _ rfl⟩
     | ok w n nd1 =>
      rw [hq] at hres hb
      simp only at hres
      subst hres
      have h7 := (hR _ _ _ rfl).2 3 w.1 a' 0 rfl
      obtain ⟨l, tl⟩ := w
      unfold Con kI at hb
      simp only [← Nat.add_assoc] at h7 hb
      cases tl with
      | none => exact .inr (.inl ⟨_, _, _, _, _, _, hb, h7⟩)
      | some y =>
       obtain ⟨yk, yt, yn, yl, ys, ya⟩ := y
       simp only [Dt.row, List.map_cons, List.map_nil] at hb
       exact .inr (.inr ⟨_, _, _, _, _, _, _, _, _, _, _, _, hb, h7⟩)
    ·rw [if_neg c6] at hres
     refine ⟨fun h => absurd h c6, fun _ => ?_⟩
     have hb := hS.i (d + 1) false (nd + 1) (by omega) (by omega) (by omega) (by omega)
     cases hq : insR dp en (ws.drop (p + 1)) (d + 1) false [] none (nd + 1) with
     | bad a e =>
      rw [hq] at hres hb
      simp only at hres
      subst hres
      exact .inl ⟨_, hb, hX _ _ rfl⟩
     | ok w n nd1 =>
      obtain ⟨i1, i2, i3, i4, i5⟩ := (hB (p + 1)).i _ _ _ _ _ _ _ _ (by omega) (by omega) hq
      rw [hlen] at i2
      rw [hq] at hres hb
      simp only at hres
      subst hres
      have h7 := fun k ds h => (hR _ _ _ rfl).2 k ds a' 0 h
      obtain ⟨l, tl⟩ := w
      unfold Con kI at hb
      simp only [← Nat.add_assoc] at h7 hb i5
      cases tl with
      | none => exact .inr (.inl ⟨_, _, _, _, _, _, hb, fun _ => h7 1 l rfl, fun h => (by cases h)⟩)
      | some y =>
       obtain ⟨yk, yt, yn, yl, ys, ya⟩ := y
       simp only [Dt.row, Dt.list, List.map_cons, List.map_nil, List.length_nil] at hb i5
       have hln := rows_len l
       have hyn := rows_len ys
       refine .inr (.inr ⟨_, _, _, _, _, _, _, _, _, _, _, _, hb, fun h => (by cases h), fun _ => ?_⟩)
       rw [hln, hyn, beq_t, beq_f, beq_t, beq_f]
       refine ⟨fun k1 => ⟨by omega, ?_⟩, fun k1 => ⟨fun k2 => ⟨by omega, ?_⟩, fun k2 => ⟨by simp only [List.length_cons, List.length_nil]; omega, ?_⟩⟩⟩
       ·have := h7 yk (l ++ ys) (by simp only [endD, Dt.kind, Dt.list]; exact (if_pos (.inl k1)))
        rw [rows_app] at this
        exact this
       ·have := h7 yk (l ++ ys) (by simp only [endD, Dt.kind, Dt.list]; exact (if_pos (.inr k2)))
        rw [rows_app] at this
        exact this
       ·have := h7 2 (l ++ [.mk yk yt yn yl ys ya]) (by simp only [endD, Dt.kind, Dt.list]; exact (if_neg (by omega)))
        rw [rows_app] at this
        simp only [Dt.rows, Dt.row] at this
        exact this
  have hd : p < ws.length → ∀ (d nd : Int), 0 ≤ d → d ≤ dp + 1 → 0 ≤ nd → nd ≤ 8192 → Con ws en dp 42 [rdP, fzI .i64 d] p nd (datR dp en (ws.drop p) d nd) kD := by
   intro hlt d nd h0 h1 h2 h3
   have H := fun R RX => hdH hlt d nd R RX h0 h1 h2 h3
   generalize datR dp en (ws.drop p) d nd = res at *
   cases res with
   | bad a e =>
    refine read_reader_datumO_fx _ _ _ _ _ _ (H _ _ (fun x n nd' h => by cases h) (fun a' e' h => ?_))
    cases h; exact ⟨rfl, rfl⟩
   | ok x n nd1 =>
    refine read_reader_datumO_fc _ _ _ _ _ _ (H _ _ (fun x' n' nd' h => ?_) (fun a' e' h => by cases h))
    cases h
    refine ⟨?_, fun k ds a et hx => ?_⟩
    ·obtain ⟨yk, yt, yn, yl, ys, ya⟩ := x
     unfold kD fzD
     simp only [Dt.row, List.map_cons, List.map_nil]
     exact ⟨rfl, ⟨.inl rfl, trivial⟩, rfl⟩
    ·subst hx
     unfold kD fzD
     simp only [lsD, tE, Dt.row, List.map_cons, List.map_nil]
     exact ⟨rfl, ⟨.inl rfl, trivial⟩, rfl⟩
  have hdAt : ∀ (n : Nat), p + n < ws.length → ∀ (d nd : Int), 0 ≤ d → d ≤ dp + 1 → 0 ≤ nd → nd ≤ 8192 → Con ws en dp 42 [rdP, fzI .i64 d] (p + n) nd (datR dp en (ws.drop (p + n)) d nd) kD := by
   intro n hn d nd h0 h1 h2 h3
   by_cases e : n = 0
   ·subst e; exact hd hn d nd h0 h1 h2 h3
   ·exact (sub (p + n) (by omega) (by omega)).d hn d nd h0 h1 h2 h3
  have hb : ∀ (a d nd : Int), 0 ≤ d → d ≤ dp + 1 → 0 ≤ nd → nd ≤ 8192 → Con ws en dp 69 [rdP, fzI .i64 a, fzI .i64 d] p nd (behR dp en (ws.drop p) d nd) kD := by
   intro a d nd h0 h1 h2 h3
   refine Con.of (fun R RX => read_reader_behindO_H R RX a d (tkR ws) p en dp nd) (fun r h H => read_reader_behindO_fn _ _ _ _ _ _ _ H) (fun x H => read_reader_behindO_fx _ _ _ _ _ _ _ H) (fun R RX ho => ?_)
   unfold behR at ho
   have hk := hs d nd h0 h1 h2 h3
   unfold read_reader_behindO_H
   cases hq : skipR dp en (ws.drop p) d nd with
   | bad a e =>
    rw [hq] at ho hk
    exact .inl ⟨_, hk, ho⟩
   | ok u n nd1 =>
    rw [hq] at ho hk
    simp only [List.drop_drop] at ho
    obtain ⟨s1, s2, s3⟩ := (hB p).s _ _ _ _ h2 h3 hq
    rw [hlen] at s1
    refine .inr ⟨_, _, _, _, _, hk, _, _, _, _, _, _, rdMore_ok ws (p + n) en dp nd1, ?_⟩
    rw [not_t, not_f]
    cases hdr : ws.drop (p + n) with
    | nil =>
     have hge : ¬ p + n < ws.length := fun h => by
      have := hlen (p + n)
      rw [hdr] at this
      simp at this; omega
     rw [hdr] at ho
     simp only at ho
     rw [decide_eq_false hge]
     exact ⟨fun _ => ⟨_, fail_ok _ _, ho⟩, fun h => (by cases h)⟩
    | cons t r =>
     have hdr2 := hdr
     rw [hdr] at ho
     simp only at ho
     obtain ⟨g1, g2, rfl⟩ := tkR_get hdr
     rw [decide_eq_true g2]
     rw [← hdr2] at ho
     have hD := hdAt n g2 d nd1 h0 h1 (by omega) s3
     obtain ⟨tk, s, ⟨xk, xt, xn, xl, xs, xa⟩, a', rfl⟩ := tok_row t
     simp only [Tok.row, Dt.row, List.cons_append, List.nil_append] at g1
     simp only at ho
     refine ⟨fun h => (by cases h), fun _ => ⟨by omega, _, _, _, _, _, _, _, _, _, g1, ?_⟩⟩
     rw [beq_t, beq_f, beq_t, beq_f]
     by_cases c1 : tk = 2 ∨ tk = 4
     ·rw [if_pos c1] at ho
      exact ⟨fun _ => ⟨by omega, _, _, _, _, _, _, _, _, _, g1, _, fail_ok _ _, ho⟩, fun hn => ⟨fun _ => ⟨by omega, _, _, _, _, _, _, _, _, _, g1, _, fail_ok _ _, ho⟩, fun hn4 => absurd c1 (by omega)⟩⟩
     rw [if_neg c1] at ho
     refine ⟨fun h => absurd (.inl h) c1, fun _ => ⟨fun h => absurd (.inr h) c1, fun _ => ?_⟩⟩
     cases hq2 : datR dp en (ws.drop (p + n)) d nd1 with
     | bad a e =>
      rw [hq2] at ho hD
      exact .inl ⟨_, hD, ho⟩
     | ok x m nd2 =>
      rw [hq2] at ho hD
      obtain ⟨yk, yt, yn, yl, ys, ya⟩ := x
      unfold Outc kD at ho
      unfold Con kD at hD
      simp only [Dt.row, List.map_cons, List.map_nil, ← Nat.add_assoc] at ho hD
      exact .inr ⟨_, _, _, _, _, _, _, _, _, _, _, hD, ho⟩
  refine ⟨hsl, hd, hb, ?_⟩
  intro d v acc tail nd R RX h0 h1 h2 h3 hacc ho
  unfold insR at ho
  have hk := hs d nd h0 h1 h2 h3
  have hal := rows_len acc
  cases tail with
  | none =>
   simp only
   refine read_reader_insideO_l0 ?_
   unfold read_reader_insideO_R0
   cases hq : skipR dp en (ws.drop p) d nd with
   | bad a e =>
    rw [hq] at ho hk
    exact .inl ⟨_, hk, ho⟩
   | ok u n nd1 =>
    rw [hq] at ho hk
    simp only at ho
    obtain ⟨s1, s2, s3⟩ := (hB p).s _ _ _ _ h2 h3 hq
    rw [hlen] at s1
    refine .inr ⟨_, _, _, _, _, hk, _, _, _, _, _, _, rdMore_ok ws (p + n) en dp nd1, ?_⟩
    rw [not_t, not_f]
    split at ho
    ·rename_i hdr
     rw [List.drop_drop] at hdr
     have hge : ¬ p + n < ws.length := fun h => by
      have := hlen (p + n)
      rw [hdr] at this
      simp at this; omega
     rw [decide_eq_false hge]
     exact ⟨fun _ => ⟨_, fail_ok _ _, ho⟩, fun h => (by cases h)⟩
    ·rename_i t r hdr
     rw [List.drop_drop] at hdr ho
     obtain ⟨g1, g2, rfl⟩ := tkR_get hdr
     have en1 := wrapP hw (Nat.le_of_lt g2)
     have hD := hdAt n g2 d nd1 h0 h1 (by omega) s3
     obtain ⟨tk, s, ⟨xk, xt, xn, xl, xs, xa⟩, a', rfl⟩ := tok_row t
     simp only [Tok.row, Dt.row, List.cons_append, List.nil_append] at g1
     simp only at ho
     rw [decide_eq_true g2]
     refine ⟨fun h => (by cases h), fun _ => ⟨by omega, _, _, _, _, _, _, _, _, _, g1, ?_⟩⟩
     rw [beq_t, beq_f, en1]
     by_cases c1 : tk = 2
     ·rw [if_pos c1] at ho
      exact ⟨fun _ => ho, fun h => absurd c1 h⟩
     rw [if_neg c1] at ho
     refine ⟨fun h => absurd h c1, fun _ => ?_⟩
     rw [if_neg (by simp)] at ho
     refine ⟨fun h => (by cases h), fun _ => ?_⟩
     rw [bne_t, bne_f]
     by_cases c3 : tk ≠ 4
     ·rw [if_pos c3] at ho
      refine ⟨fun _ => ?_, fun h => absurd h c3⟩
      cases hq2 : datR dp en (ws.drop (p + n)) d nd1 with
      | bad a e =>
       rw [hq2] at ho hD
       exact .inl ⟨_, hD, ho⟩
      | ok y m nd2 =>
       rw [hq2] at ho hD
       simp only at ho
       obtain ⟨i1, i2, i3, i4, i5⟩ := (hB (p + n)).d _ _ _ _ _ (by omega) s3 hq2
       rw [hlen] at i2
       have hL := (sub (p + n + m) (by omega) (by omega)).il d v (acc ++ [y]) none nd2 R RX h0 h1 (by omega) i4 (by rw [List.length_append, List.length_singleton]; omega) (by
        rw [List.drop_drop, show p + n + 1 + (m - 1) = p + n + m by omega] at ho
        refine ho.shift ?_
        cases insR dp en (ws.drop (p + n + m)) d v (acc ++ [y]) none nd2 with
        | bad a e => rfl
        | ok w k nd3 => exact ⟨w, _, rfl, rfl, by omega⟩)
       obtain ⟨yk, yt, yn, yl, ys, ya⟩ := y
       unfold Con kD at hD
       rw [rows_app] at hL
       simp only [Dt.rows, Dt.row, List.map_cons, List.map_nil] at hD hL
       exact .inr ⟨_, _, _, _, _, _, _, _, _, _, _, hD, by rw [hal]; simp only [List.length_cons, List.length_nil]; omega, hL⟩
     ·rw [if_neg c3] at ho
      refine ⟨fun h => absurd h c3, fun _ => ?_⟩
      rw [hal, beq_t, beq_f]
      by_cases c4 : v = true ∨ acc = []
      ·rw [if_pos c4] at ho
       refine ⟨fun _ => ⟨_, fail_ok _ _, ho⟩, fun hv => ⟨fun _ => ⟨_, fail_ok _ _, ho⟩, fun hn => ?_⟩⟩
       rcases c4 with c4 | c4
       ·rw [hv] at c4; cases c4
       ·rw [c4] at hn; exact absurd rfl hn
      rw [if_neg c4] at ho
      refine ⟨fun h => absurd (.inl h) c4, fun _ => ⟨fun h => absurd (.inr (List.length_eq_zero_iff.1 (by omega))) c4, fun _ => ?_⟩⟩
      have hb2 := (sub (p + n + 1) (by omega) (by omega)).b ((a' : Nat) : Int) d nd1 h0 h1 (by omega) s3
      cases hq2 : behR dp en (ws.drop (p + n + 1)) d nd1 with
      | bad a e =>
       rw [hq2] at ho hb2
       exact .inl ⟨_, hb2, ho⟩
      | ok y m nd2 =>
       rw [hq2] at ho hb2
       simp only at ho
       obtain ⟨i1, i2, i3, i4, i5⟩ := (hB (p + n + 1)).b _ _ _ _ _ (by omega) s3 hq2
       rw [hlen] at i2
       have hL := (sub (p + n + 1 + m) (by omega) (by omega)).il d v acc (some y) nd2 R RX h0 h1 (by omega) i4 (by omega) (by
        rw [List.drop_drop] at ho
        refine ho.shift ?_
        cases insR dp en (ws.drop (p + n + 1 + m)) d v acc (some y) nd2 with
        | bad a e => rfl
        | ok w k nd3 => exact ⟨w, _, rfl, rfl, by omega⟩)
       obtain ⟨yk, yt, yn, yl, ys, ya⟩ := y
       unfold Con kD at hb2
       simp only [Dt.row, List.map_cons, List.map_nil] at hb2 hL
       exact .inr ⟨_, _, _, _, _, _, _, _, _, _, _, hb2, hL⟩
  | some z =>
   obtain ⟨zk, zt, zn, zl, zs, za⟩ := z
   simp only
   refine read_reader_insideO_l1 ?_
   unfold read_reader_insideO_R1
   cases hq : skipR dp en (ws.drop p) d nd with
   | bad a e =>
    rw [hq] at ho hk
    exact .inl ⟨_, hk, ho⟩
   | ok u n nd1 =>
    rw [hq] at ho hk
    simp only at ho
    obtain ⟨s1, s2, s3⟩ := (hB p).s _ _ _ _ h2 h3 hq
    rw [hlen] at s1
    refine .inr ⟨_, _, _, _, _, hk, _, _, _, _, _, _, rdMore_ok ws (p + n) en dp nd1, ?_⟩
    rw [not_t, not_f]
    split at ho
    ·rename_i hdr
     rw [List.drop_drop] at hdr
     have hge : ¬ p + n < ws.length := fun h => by
      have := hlen (p + n)
      rw [hdr] at this
      simp at this; omega
     rw [decide_eq_false hge]
     exact ⟨fun _ => ⟨_, fail_ok _ _, ho⟩, fun h => (by cases h)⟩
    ·rename_i t r hdr
     rw [List.drop_drop] at hdr ho
     obtain ⟨g1, g2, rfl⟩ := tkR_get hdr
     have en1 := wrapP hw (Nat.le_of_lt g2)
     have hD := hdAt n g2 d nd1 h0 h1 (by omega) s3
     obtain ⟨tk, s, ⟨xk, xt, xn, xl, xs, xa⟩, a', rfl⟩ := tok_row t
     simp only [Tok.row, Dt.row, List.cons_append, List.nil_append] at g1
     simp only at ho
     rw [decide_eq_true g2]
     refine ⟨fun h => (by cases h), fun _ => ⟨by omega, _, _, _, _, _, _, _, _, _, g1, ?_⟩⟩
     rw [beq_t, beq_f, en1]
     by_cases c1 : tk = 2
     ·rw [if_pos c1] at ho
      exact ⟨fun _ => ho, fun h => absurd c1 h⟩
     rw [if_neg c1] at ho
     refine ⟨fun h => absurd h c1, fun _ => ?_⟩
     rw [if_pos (by rfl)] at ho
     exact ⟨fun _ => ⟨_, fail_ok _ _, ho⟩, fun h => (by cases h)⟩
end
set_option maxRecDepth 100000
section
def readD0_lv : List Nat → Keep := lvOf []
def readD0_H (R : TV → List Ob → Prop) (a : Int) (e : Int) (l : List (List FV)) : Prop :=
 ((((Bool.not (Bool.not false)) = true) → False) ∧ (((Bool.not (Bool.not false)) = false) → (R (TV.tup []) [(Ob.g 23 [(AV.ofl 6 3)]), (Ob.g 3 [(AV.fz (FV.int .i64 a))]), (Ob.g 24 [(AV.fz (FV.int .i64 e))]), (Ob.f 0 6 l)])))
theorem readD0_fn (a : Int) (e : Int) (l : LL) {h : List Ob} (H : readD0_H (fun _ h' => Wk h' h) a e l) : FnDf Tryz.prog 39 [(TV.one (AV.ptr 0 0 0 23)), (TV.one (AV.ptr 1 0 0 3)), (TV.one (AV.ptr 2 0 0 24))] [(Ob.g 23 [(AV.ofl 6 3)]), (Ob.g 3 [(AV.fz (FV.int .i64 a))]), (Ob.g 24 [(AV.fz (FV.int .i64 e))]), (Ob.f 0 6 l)] none h :=
 FnDf.by_trR (M := (modeOf [] [])) (lv := readD0_lv) (own := (some 4)) (F := Tryz.f39) (by kernel_rfl) (by kernel_rfl) (by first | decide | simp) (fun _ _ h => h) (by kernel_rfl) H
def readDx_lv : List Nat → Keep := lvOf []
def readDx_H (R : TV → List Ob → Prop) (q : Int) (f : Int) : Prop :=
 ((((Bool.not false) = true) → (R (TV.tup []) [(Ob.g 23 [(AV.nsl 6)]), (Ob.g 3 [(AV.fz (FV.int .i64 q))]), (Ob.g 24 [(AV.fz (FV.int .i64 f))])])) ∧ (((Bool.not false) = false) → (R (TV.tup []) [(Ob.g 23 [AV.und]), (Ob.g 3 [AV.und]), (Ob.g 24 [AV.und])])))
theorem readDx_fn (q : Int) (f : Int) {h : List Ob} (H : readDx_H (fun _ h' => Wk h' h) q f) : FnDf Tryz.prog 39 [(TV.one (AV.ptr 0 0 0 23)), (TV.one (AV.ptr 1 0 0 3)), (TV.one (AV.ptr 2 0 0 24))] [(Ob.g 23 [AV.und]), (Ob.g 3 [AV.und]), (Ob.g 24 [AV.und])] (some (FV.ifv 66 true [(FV.int .i64 q), (FV.int .i64 f)])) h :=
 FnDf.by_trR (M := (modeOf [] [])) (lv := readDx_lv) (own := (some 3)) (F := Tryz.f39) (by kernel_rfl) (by kernel_rfl) (by first | decide | simp) (fun _ _ h => h) (by kernel_rfl) H
def read_Read_lv : List Nat → Keep := lvOf [([0, 1, 0, 1, 1, 1, 1, 1, 1, 1, 1], ⟨624, 0, [], false, false⟩)]
def read_Read_S0 (n2 : Int) (n3 : Int) (es2 : LL) (n6 : Int) (n7 : Int) (n8 : Int) (n9 : Int) (o : LL) : St := (St.mk [TV.und, TV.und, TV.und, TV.und, (TV.one (AV.ptr 0 0 0 0)), (TV.one (AV.ptr 1 0 0 0)), (TV.one (AV.ptr 2 0 0 0)), TV.und, TV.und, (TV.one (AV.ptr 3 0 0 0)), TV.und, TV.und, TV.und, TV.und, TV.und, TV.und, TV.und, TV.und, TV.und, TV.und, TV.und, TV.und, TV.und, TV.und, TV.und, TV.und, TV.und, TV.und, TV.und, TV.und, TV.und, TV.und, TV.und, TV.und, TV.und, TV.und, TV.und, TV.und, TV.und, TV.und, TV.und, TV.und, TV.und, TV.und, TV.und, TV.und, TV.und, TV.und, TV.und, TV.und, TV.und, TV.und, TV.und, TV.und, TV.und, TV.und, TV.und] [(Ob.g 23 [(AV.ofl 6 4)]), (Ob.g 3 [(AV.fz (FV.int .i64 n2))]), (Ob.g 24 [(AV.fz (FV.int .i64 n3))]), (Ob.g 70 [(AV.fz (FV.sl 9 es2)), (AV.fz (FV.int .i64 n6)), (AV.fz (FV.int .i64 n7)), (AV.fz (FV.int .i64 n8)), (AV.fz (FV.int .i64 n9))]), (Ob.f 0 6 o)])
def read_Read_L0 (R : TV → List Ob → Prop) (RX : FV → List Ob → Prop) (n2 : Int) (n3 : Int) (es2 : LL) (n6 : Int) (n7 : Int) (n8 : Int) (n9 : Int) (o : LL) : Prop := LoopAtD Tryz.prog (modeX [] [(41, [(Sig.mk 1 [(false, [(AT.k CK.bool)])] [(OT.g 70 [(AT.k (CK.sl 9)), (AT.k (CK.int .i64)), (AT.k (CK.int .i64)), (AT.k (CK.int .i64)), (AT.k (CK.int .i64))])] 0)]), (40, [(Sig.mk 1 [] [(OT.g 70 [(AT.k (CK.sl 9)), (AT.k (CK.int .i64)), (AT.k (CK.int .i64)), (AT.k (CK.int .i64)), (AT.k (CK.int .i64))])] 0)]), (42, [(Sig.mk 1 [(true, [(AT.k (CK.int .i64)), (AT.k CK.str), (AT.k CK.bool), (AT.k (CK.sl 1)), (AT.k (CK.sl 6)), (AT.k (CK.int .i64))])] [(OT.g 70 [(AT.k (CK.sl 9)), (AT.k (CK.int .i64)), (AT.k (CK.int .i64)), (AT.k (CK.int .i64)), (AT.k (CK.int .i64))])] 0)]), (39, [(Sig.mk 3 [] [(OT.g 23 [(AT.a (AV.nsl 6))]), (OT.g 3 [(AT.k (CK.int .i64))]), (OT.g 24 [(AT.k (CK.int .i64))])] 0), (Sig.mk 4 [] [(OT.g 23 [(AT.a (AV.ofl 6 3))]), (OT.g 3 [(AT.k (CK.int .i64))]), (OT.g 24 [(AT.k (CK.int .i64))]), (OT.f 0 6)] 0)])] [40, 42] 0 RX) read_Read_lv Tryz.f15 none R 3 [(39, [(AV.ptr 0 0 0 0), (AV.ptr 1 0 0 0), (AV.ptr 2 0 0 0)])] [1, 1, 1, 1, 1, 1, 1, 1, 0, 1, 0] (read_Read_S0 n2 n3 es2 n6 n7 n8 n9 o)
def read_Read_R0 (R : TV → List Ob → Prop) (RX : FV → List Ob → Prop) (n2 : Int) (n3 : Int) (es2 : LL) (n6 : Int) (n7 : Int) (n8 : Int) (n9 : Int) (o : LL) : Prop :=
 (∃ es15 : LL, (∃ n50 : Int, (∃ n51 : Int, (∃ n52 : Int, (∃ n53 : Int, (∃ b5 : Bool, ((Fn Tryz.prog 41 [(TV.one (AV.ptr 0 0 0 0))] [(Ob.g 70 [(AV.fz (FV.sl 9 es2)), (AV.fz (FV.int .i64 n6)), (AV.fz (FV.int .i64 n7)), (AV.fz (FV.int .i64 n8)), (AV.fz (FV.int .i64 n9))])] (TV.one (AV.fz (FV.bool b5))) [(Ob.g 70 [(AV.fz (FV.sl 9 es15)), (AV.fz (FV.int .i64 n50)), (AV.fz (FV.int .i64 n51)), (AV.fz (FV.int .i64 n52)), (AV.fz (FV.int .i64 n53))])]) ∧ (((b5 = true) → ((∃ v5 : FV, ((FnX Tryz.prog 42 [(TV.one (AV.ptr 0 0 0 0)), (TV.one (AV.fz (FV.int .i64 1)))] [(Ob.g 70 [(AV.fz (FV.sl 9 es15)), (AV.fz (FV.int .i64 n50)), (AV.fz (FV.int .i64 n51)), (AV.fz (FV.int .i64 n52)), (AV.fz (FV.int .i64 n53))])] v5) ∧ (∃ n54 : Int, (∃ n55 : Int, ((FnDf Tryz.prog 39 [(TV.one (AV.ptr 0 0 0 0)), (TV.one (AV.ptr 1 0 0 0)), (TV.one (AV.ptr 2 0 0 0))] [(Ob.g 23 [AV.und]), (Ob.g 3 [AV.und]), (Ob.g 24 [AV.und])] (some v5) [(Ob.g 23 [(AV.nsl 6)]), (Ob.g 3 [(AV.fz (FV.int .i64 n54))]), (Ob.g 24 [(AV.fz (FV.int .i64 n55))])]) ∧ (R (TV.tup [(false, [(AV.fz (FV.sl 6 ([] : LL)))]), (false, [(AV.fz (FV.int .i64 n54))]), (false, [(AV.fz (FV.int .i64 n55))])]) [])))))) ∨ (∃ es16 : LL, (∃ n56 : Int, (∃ n57 : Int, (∃ n58 : Int, (∃ n59 : Int, (∃ n60 : Int, (∃ s2 : ByteArray, (∃ b6 : Bool, (∃ es17 : LL, (∃ es18 : LL, (∃ n61 : Int, ((Fn Tryz.prog 42 [(TV.one (AV.ptr 0 0 0 0)), (TV.one (AV.fz (FV.int .i64 1)))] [(Ob.g 70 [(AV.fz (FV.sl 9 es15)), (AV.fz (FV.int .i64 n50)), (AV.fz (FV.int .i64 n51)), (AV.fz (FV.int .i64 n52)), (AV.fz (FV.int .i64 n53))])] (TV.agg [(AV.fz (FV.int .i64 n60)), (AV.fz (FV.str s2)), (AV.fz (FV.bool b6)), (AV.fz (FV.sl 1 es17)), (AV.fz (FV.sl 6 es18)), (AV.fz (FV.int .i64 n61))]) [(Ob.g 70 [(AV.fz (FV.sl 9 es16)), (AV.fz (FV.int .i64 n56)), (AV.fz (FV.int .i64 n57)), (AV.fz (FV.int .i64 n58)), (AV.fz (FV.int .i64 n59))])]) ∧ (((((List.length o) + (List.length [[(FV.int .i64 0), (FV.str (ByteArray.mk #[])), (FV.bool false), (FV.sl 1 ([] : LL)), (FV.sl 6 ([] : LL)), (FV.int .i64 0)]])) * 88) ≤ 220000000000000) ∧ ((((0 : Int) ≤ (((List.length o) : Nat) : Int)) ∧ ((((List.length o) : Nat) : Int) < (((List.length (o ++ [[(FV.int .i64 0), (FV.str (ByteArray.mk #[])), (FV.bool false), (FV.sl 1 ([] : LL)), (FV.sl 6 ([] : LL)), (FV.int .i64 0)]])) : Nat) : Int))) ∧ (((Int.toNat (((List.length o) : Nat) : Int)) < (List.length (o ++ [[(FV.int .i64 0), (FV.str (ByteArray.mk #[])), (FV.bool false), (FV.sl 1 ([] : LL)), (FV.sl 6 ([] : LL)), (FV.int .i64 0)]]))) ∧ ((∃ v6 : FV, ((FnX Tryz.prog 40 [(TV.one (AV.ptr 0 0 0 0)), (TV.one (AV.fz (FV.int .i64 1)))] [(Ob.g 70 [(AV.fz (FV.sl 9 es16)), (AV.fz (FV.int .i64 n56)), (AV.fz (FV.int .i64 n57)), (AV.fz (FV.int .i64 n58)), (AV.fz (FV.int .i64 n59))])] v6) ∧ (∃ n62 : Int, (∃ n63 : Int, ((FnDf Tryz.prog 39 [(TV.one (AV.ptr 0 0 0 0)), (TV.one (AV.ptr 1 0 0 0)), (TV.one (AV.ptr 2 0 0 0))] [(Ob.g 23 [AV.und]), (Ob.g 3 [AV.und]), (Ob.g 24 [AV.und])] (some v6) [(Ob.g 23 [(AV.nsl 6)]), (Ob.g 3 [(AV.fz (FV.int .i64 n62))]), (Ob.g 24 [(AV.fz (FV.int .i64 n63))])]) ∧ (R (TV.tup [(false, [(AV.fz (FV.sl 6 ([] : LL)))]), (false, [(AV.fz (FV.int .i64 n62))]), (false, [(AV.fz (FV.int .i64 n63))])]) [])))))) ∨ (∃ es19 : LL, (∃ n64 : Int, (∃ n65 : Int, (∃ n66 : Int, (∃ n67 : Int, ((Fn Tryz.prog 40 [(TV.one (AV.ptr 0 0 0 0)), (TV.one (AV.fz (FV.int .i64 1)))] [(Ob.g 70 [(AV.fz (FV.sl 9 es16)), (AV.fz (FV.int .i64 n56)), (AV.fz (FV.int .i64 n57)), (AV.fz (FV.int .i64 n58)), (AV.fz (FV.int .i64 n59))])] (TV.tup []) [(Ob.g 70 [(AV.fz (FV.sl 9 es19)), (AV.fz (FV.int .i64 n64)), (AV.fz (FV.int .i64 n65)), (AV.fz (FV.int .i64 n66)), (AV.fz (FV.int .i64 n67))])]) ∧ (read_Read_L0 R RX n2 n3 es19 n64 n65 n66 n67 (List.set (o ++ [[(FV.int .i64 0), (FV.str (ByteArray.mk #[])), (FV.bool false), (FV.sl 1 ([] : LL)), (FV.sl 6 ([] : LL)), (FV.int .i64 0)]]) (Int.toNat (((List.length o) : Nat) : Int)) [(FV.int .i64 n60), (FV.str s2), (FV.bool b6), (FV.sl 1 es17), (FV.sl 6 es18), (FV.int .i64 n61)])))))))))))))))))))))))))) ∧ ((b5 = false) → (∃ n68 : Int, (∃ n69 : Int, (∃ es20 : LL, ((FnDf Tryz.prog 39 [(TV.one (AV.ptr 0 0 0 0)), (TV.one (AV.ptr 1 0 0 0)), (TV.one (AV.ptr 2 0 0 0))] [(Ob.g 23 [(AV.ofl 6 3)]), (Ob.g 3 [(AV.fz (FV.int .i64 0))]), (Ob.g 24 [(AV.fz (FV.int .i64 0))]), (Ob.f 0 6 o)] none [(Ob.g 23 [(AV.ofl 6 3)]), (Ob.g 3 [(AV.fz (FV.int .i64 n68))]), (Ob.g 24 [(AV.fz (FV.int .i64 n69))]), (Ob.f 0 6 es20)]) ∧ (R (TV.tup [(false, [(AV.fz (FV.sl 6 es20))]), (false, [(AV.fz (FV.int .i64 n68))]), (false, [(AV.fz (FV.int .i64 n69))])]) []))))))))))))))
theorem read_Read_l0 {R : TV → List Ob → Prop} {RX : FV → List Ob → Prop} {n2 : Int} {n3 : Int} {es2 : LL} {n6 : Int} {n7 : Int} {n8 : Int} {n9 : Int} {o : LL} (h : read_Read_R0 R RX n2 n3 es2 n6 n7 n8 n9 o) : read_Read_L0 R RX n2 n3 es2 n6 n7 n8 n9 o :=
 LoopAtD.by_tr (by kernel_rfl) (by kernel_rfl) h
def read_Read_H (R : TV → List Ob → Prop) (RX : FV → List Ob → Prop) (b : List (List FV)) (depth : Int) : Prop :=
 ((((decide (depth < 1)) = true) → (R (TV.tup [(false, [(AV.fz (FV.sl 6 ([] : LL)))]), (false, [(AV.fz (FV.int .i64 0))]), (false, [(AV.fz (FV.int .i64 1))])]) [])) ∧ (((decide (depth < 1)) = false) → ((((decide ((64 : Int) < depth)) = true) → (R (TV.tup [(false, [(AV.fz (FV.sl 6 ([] : LL)))]), (false, [(AV.fz (FV.int .i64 0))]), (false, [(AV.fz (FV.int .i64 1))])]) [])) ∧ (((decide ((64 : Int) < depth)) = false) → (∃ es15 : LL, (∃ n50 : Int, (∃ n51 : Int, ((Fn Tryz.prog 37 [(TV.one (AV.fz (FV.sl 1 b)))] [] (TV.tup [(false, [(AV.fz (FV.sl 1 es15))]), (false, [(AV.fz (FV.int .i64 n50))]), (false, [(AV.fz (FV.int .i64 n51))])]) []) ∧ ((((n51 != 0) = true) → (R (TV.tup [(false, [(AV.fz (FV.sl 6 ([] : LL)))]), (false, [(AV.fz (FV.int .i64 n50))]), (false, [(AV.fz (FV.int .i64 n51))])]) [])) ∧ (((n51 != 0) = false) → (∃ es16 : LL, (∃ n52 : Int, (∃ n53 : Int, ((Fn Tryz.prog 38 [(TV.one (AV.fz (FV.sl 1 es15)))] [] (TV.tup [(false, [(AV.fz (FV.sl 9 es16))]), (false, [(AV.fz (FV.int .i64 n52))]), (false, [(AV.fz (FV.int .i64 n53))])]) []) ∧ ((((n53 != 0) = true) → (R (TV.tup [(false, [(AV.fz (FV.sl 6 ([] : LL)))]), (false, [(AV.fz (FV.int .i64 n52))]), (false, [(AV.fz (FV.int .i64 n53))])]) [])) ∧ (((n53 != 0) = false) → ((∃ v5 : FV, ((FnX Tryz.prog 40 [(TV.one (AV.ptr 0 0 0 0)), (TV.one (AV.fz (FV.int .i64 1)))] [(Ob.g 70 [(AV.fz (FV.sl 9 es16)), (AV.fz (FV.int .i64 0)), (AV.fz (FV.int .i64 (((List.length es15) : Nat) : Int))), (AV.fz (FV.int .i64 depth)), (AV.fz (FV.int .i64 0))])] v5) ∧ (∃ n54 : Int, (∃ n55 : Int, ((FnDf Tryz.prog 39 [(TV.one (AV.ptr 0 0 0 0)), (TV.one (AV.ptr 1 0 0 0)), (TV.one (AV.ptr 2 0 0 0))] [(Ob.g 23 [AV.und]), (Ob.g 3 [AV.und]), (Ob.g 24 [AV.und])] (some v5) [(Ob.g 23 [(AV.nsl 6)]), (Ob.g 3 [(AV.fz (FV.int .i64 n54))]), (Ob.g 24 [(AV.fz (FV.int .i64 n55))])]) ∧ (R (TV.tup [(false, [(AV.fz (FV.sl 6 ([] : LL)))]), (false, [(AV.fz (FV.int .i64 n54))]), (false, [(AV.fz (FV.int .i64 n55))])]) [])))))) ∨ (∃ es17 : LL, (∃ n56 : Int, (∃ n57 : Int, (∃ n58 : Int, (∃ n59 : Int, ((Fn Tryz.prog 40 [(TV.one (AV.ptr 0 0 0 0)), (TV.one (AV.fz (FV.int .i64 1)))] [(Ob.g 70 [(AV.fz (FV.sl 9 es16)), (AV.fz (FV.int .i64 0)), (AV.fz (FV.int .i64 (((List.length es15) : Nat) : Int))), (AV.fz (FV.int .i64 depth)), (AV.fz (FV.int .i64 0))])] (TV.tup []) [(Ob.g 70 [(AV.fz (FV.sl 9 es17)), (AV.fz (FV.int .i64 n56)), (AV.fz (FV.int .i64 n57)), (AV.fz (FV.int .i64 n58)), (AV.fz (FV.int .i64 n59))])]) ∧ (read_Read_L0 R RX n52 n53 es17 n56 n57 n58 n59 ([] : LL)))))))))))))))))))))))))
theorem read_Read_fn (b : LL) (depth : Int) {r : TV} {h : List Ob} (H : read_Read_H (fun r' h' => r' = r ∧ Wk h' h) (fun _ _ => False) b depth) : Fn Tryz.prog 15 [(TV.one (AV.fz (FV.sl 1 b))), (TV.one (AV.fz (FV.int .i64 depth)))] [] r h :=
 Fn.by_trD (M := (modeX [] [(41, [(Sig.mk 1 [(false, [(AT.k CK.bool)])] [(OT.g 70 [(AT.k (CK.sl 9)), (AT.k (CK.int .i64)), (AT.k (CK.int .i64)), (AT.k (CK.int .i64)), (AT.k (CK.int .i64))])] 0)]), (40, [(Sig.mk 1 [] [(OT.g 70 [(AT.k (CK.sl 9)), (AT.k (CK.int .i64)), (AT.k (CK.int .i64)), (AT.k (CK.int .i64)), (AT.k (CK.int .i64))])] 0)]), (42, [(Sig.mk 1 [(true, [(AT.k (CK.int .i64)), (AT.k CK.str), (AT.k CK.bool), (AT.k (CK.sl 1)), (AT.k (CK.sl 6)), (AT.k (CK.int .i64))])] [(OT.g 70 [(AT.k (CK.sl 9)), (AT.k (CK.int .i64)), (AT.k (CK.int .i64)), (AT.k (CK.int .i64)), (AT.k (CK.int .i64))])] 0)]), (39, [(Sig.mk 3 [] [(OT.g 23 [(AT.a (AV.nsl 6))]), (OT.g 3 [(AT.k (CK.int .i64))]), (OT.g 24 [(AT.k (CK.int .i64))])] 0), (Sig.mk 4 [] [(OT.g 23 [(AT.a (AV.ofl 6 3))]), (OT.g 3 [(AT.k (CK.int .i64))]), (OT.g 24 [(AT.k (CK.int .i64))]), (OT.f 0 6)] 0)])] [40, 42] 0 (fun _ _ => False))) (lv := read_Read_lv) (own := none) (n := 3) (F := Tryz.f15) (by kernel_rfl) (by kernel_rfl) (by first | decide | simp) (by kernel_rfl) H
end
section
def topR (dp en : Int) (ts : List Tok) (nd : Int) (acc : List Dt) : RdR (List Dt) :=
 match ts with
 | [] => .ok acc 0 nd
 | t :: r =>
  match datR dp en (t :: r) 1 nd with
  | .bad a e => .bad a e
  | .ok x m nd1 =>
   match skipR dp en (r.drop (m - 1)) 1 nd1 with
   | .bad a e => .bad a e
   | .ok _ k nd2 => topR dp en (r.drop (m - 1 + k)) nd2 (acc ++ [x])
termination_by ts.length
decreasing_by simp_wf; omega
def readW (dp en : Int) (ts : List Tok) : RdR (List Dt) :=
 match skipR dp en ts 1 0 with
 | .bad a e => .bad a e
 | .ok _ n nd => topR dp en (ts.drop n) nd []
def resR : RdR (List Dt) → List Dt × Int × Int
 | .ok l _ _ => (l, 0, 0)
 | .bad a e => ([], a, e)
def readV (b : List Int) (dp : Int) : List Dt × Int × Int :=
 if dp < 1 ∨ 64 < dp then ([], 0, 1)
 else if decE b ≠ 0 then ([], decA b, decE b)
 else if (scanV (decL b)).2.2 ≠ 0 then ([], (scanV (decL b)).2.1, (scanV (decL b)).2.2)
 else resR (readW dp ((decL b).length : Nat) (scanV (decL b)).1)
theorem nextV_plain {t : List Int} {p : Nat} {x : Tok} {e : Nat} (h : nextV t p = some (x, e)) : x.d.list = [] := by
 unfold nextV at h
 split at h
 ·cases h; rfl
 ·split at h
  ·cases h; rfl
  ·cases h
theorem scanL_plain : ∀ (f : Nat) (t : List Int) (p : Nat) (acc : List Tok), Plain acc → Plain (scanL f t p acc).1
 | 0, t, p, acc, h => by unfold scanL; intro x hx; cases hx
 | f + 1, t, p, acc, h => by
  unfold scanL
  split
  ·exact h
  ·split
   ·rename_i tok e hn
    refine scanL_plain f t e _ (fun x hx => ?_)
    rcases List.mem_append.1 hx with hx | hx
    ·exact h x hx
    ·simp only [List.mem_singleton] at hx
     rw [hx]; exact nextV_plain hn
   ·intro x hx; cases hx
theorem scanV_plain (t : List Int) : Plain (scanV t).1 := by
 unfold scanV
 split
 ·intro x hx; cases hx
 ·exact scanL_plain _ _ _ _ (fun x hx => by cases hx)
theorem scanL_len : ∀ (f : Nat) (t : List Int) (p : Nat) (acc : List Tok), p ≤ t.length → acc.length ≤ p → (scanL f t p acc).1.length ≤ t.length
 | 0, t, p, acc, _, _ => by unfold scanL; simp
 | f + 1, t, p, acc, hp, ha => by
  have hb := blC_le false (t.drop p)
  rw [List.length_drop] at hb
  unfold scanL
  split
  ·simp only; omega
  ·split
   ·rename_i tok e hn
    have hle := nextV_le (by omega) hn
    exact scanL_len f t e _ (by omega) (by simp; omega)
   ·simp
theorem scanV_len (t : List Int) : (scanV t).1.length ≤ t.length := by
 unfold scanV
 split
 ·simp
 ·exact scanL_len _ _ _ _ (by omega) (by simp)
theorem readDx_ok (a e : Int) : FnDf Tryz.prog 39 [.one (.ptr 0 0 0 0), .one (.ptr 1 0 0 0), .one (.ptr 2 0 0 0)] [.g 23 [.und], .g 3 [.und], .g 24 [.und]] (some (flt a e))
  [.g 23 [.nsl 6], .g 3 [.fz (.int .i64 a)], .g 24 [.fz (.int .i64 e)]] := by
 have := readDx_fn a e (h := [.g 23 [.nsl 6], .g 3 [.fz (.int .i64 a)], .g 24 [.fz (.int .i64 e)]]) ⟨fun _ => Wk.refl _, fun h => absurd h (by decide)⟩
 exact FnC.ptr3 this
theorem readD0_ok (l : List (List FV)) : FnDf Tryz.prog 39 [.one (.ptr 0 0 0 0), .one (.ptr 1 0 0 0), .one (.ptr 2 0 0 0)] [.g 23 [.ofl 6 3], .g 3 [.fz (.int .i64 0)], .g 24 [.fz (.int .i64 0)], .f 0 6 l] none
  [.g 23 [.ofl 6 3], .g 3 [.fz (.int .i64 0)], .g 24 [.fz (.int .i64 0)], .f 0 6 l] := by
 have := readD0_fn 0 0 l (h := [.g 23 [.ofl 6 3], .g 3 [.fz (.int .i64 0)], .g 24 [.fz (.int .i64 0)], .f 0 6 l]) ⟨fun h => absurd h (by decide), fun _ => Wk.refl _⟩
 exact FnC.ptr3 this
abbrev rdT (x : List Dt × Int × Int) : TV := .tup [(false, [.fz (.sl 6 (Dt.rows x.1))]), (false, [.fz (.int .i64 x.2.1)]), (false, [.fz (.int .i64 x.2.2)])]
theorem set_snoc {α : Type} (l : List α) (a b : α) : (l ++ [a]).set l.length b = l ++ [b] := by
 rw [List.set_append_right _ _ (Nat.le_refl _)]; simp
theorem read_loop {ws : List Tok} {en dp : Int} (hw : ws.length ≤ 100000000) (hpl : Plain ws) (hd0 : 1 ≤ dp) (hd1 : dp ≤ 64) (n2 n3 : Int) (R : TV → List Ob → Prop) (RX : FV → List Ob → Prop) : ∀ (N p : Nat) (nd : Int) (acc : List Dt), ws.length - p = N → p ≤ ws.length → 0 ≤ nd → nd ≤ 8192 → acc.length ≤ p →
  R (rdT (resR (topR dp en (ws.drop p) nd acc))) [] → read_Read_L0 R RX n2 n3 (tkR ws) p en dp nd (Dt.rows acc) := by
 intro N
 induction N using Nat.strongRecOn with
 | _ N ih =>
  intro p nd acc hN hp h2 h3 hacc hR
  have hW : ∀ q, q ≤ ws.length → RdW ws en dp q := fun q hq => rdW_all hw hpl (by omega) hd1 _ q rfl hq
  have hB : ∀ q, RdB dp en (ws.drop q) := fun q => rdB_all dp en _ _ rfl (hpl.drop q)
  have hal := rows_len acc
  unfold topR at hR
  refine read_Read_l0 ?_
  unfold read_Read_R0
  refine ⟨_, _, _, _, _, _, FnC.ptr1 0 (rdMore_ok ws p en dp nd), ?_⟩
  cases hdr : ws.drop p with
  | nil =>
   have hge : ¬ p < ws.length := fun h => by
    have : (ws.drop p).length = ws.length - p := List.length_drop
    rw [hdr] at this
    simp at this; omega
   rw [hdr] at hR
   simp only [resR] at hR
   rw [decide_eq_false hge]
   exact ⟨fun h => (by cases h), fun _ => ⟨_, _, _, readD0_ok _, hR⟩⟩
  | cons t r =>
   obtain ⟨g1, g2, hr⟩ := tkR_get hdr
   rw [hdr] at hR
   simp only at hR
   rw [← hdr] at hR
   rw [decide_eq_true g2]
   refine ⟨fun _ => ?_, fun h => (by cases h)⟩
   have hD := (hW p hp).d g2 1 nd (by omega) (by omega) h2 h3
   cases hq : datR dp en (ws.drop p) 1 nd with
   | bad a e =>
    rw [hq] at hR hD
    exact .inl ⟨_, FnC.ptr1 0 hD, _, _, readDx_ok a e, hR⟩
   | ok x m nd1 =>
    rw [hq] at hR hD
    simp only at hR
    obtain ⟨i1, i2, i3, i4, _⟩ := (hB p).d _ _ _ _ _ h2 h3 hq
    rw [List.length_drop] at i2
    have hS := (hW (p + m) (by omega)).s 1 nd1 (by omega) (by omega) (by omega) i4
    subst hr
    rw [List.drop_drop, show p + 1 + (m - 1) = p + m by omega] at hR
    obtain ⟨yk, yt, yn, yl, ys, ya⟩ := x
    unfold Con kD at hD
    simp only [Dt.row, List.map_cons, List.map_nil] at hD
    cases hk : skipR dp en (ws.drop (p + m)) 1 nd1 with
    | bad a e =>
     rw [hk] at hR hS
     exact .inr ⟨_, _, _, _, _, _, _, _, _, _, _, FnC.ptr1 0 hD, by rw [hal]; simp only [List.length_cons, List.length_nil]; omega, ⟨by omega, by rw [List.length_append]; simp only [List.length_cons, List.length_nil]; omega⟩, by rw [List.length_append, Int.toNat_natCast]; simp only [List.length_cons, List.length_nil]; omega, .inl ⟨_, FnC.ptr1 0 hS, _, _, readDx_ok a e, hR⟩⟩
    | ok u k nd2 =>
     rw [hk] at hR hS
     simp only at hR
     obtain ⟨j1, j2, j3⟩ := (hB (p + m)).s _ _ _ _ (by omega) i4 hk
     rw [List.length_drop] at j1
     rw [List.drop_drop, show p + 1 + (m - 1 + k) = p + m + k by omega] at hR
     have hL := ih (ws.length - (p + m + k)) (by omega) (p + m + k) nd2 (acc ++ [.mk yk yt yn yl ys ya]) rfl (by omega) (by omega) j3 (by rw [List.length_append, List.length_singleton]; omega) hR
     rw [rows_app] at hL
     simp only [Dt.rows, Dt.row] at hL
     refine .inr ⟨_, _, _, _, _, _, _, _, _, _, _, FnC.ptr1 0 hD, by rw [hal]; simp only [List.length_cons, List.length_nil]; omega, ⟨by omega, by rw [List.length_append]; simp only [List.length_cons, List.length_nil]; omega⟩, by rw [List.length_append, Int.toNat_natCast]; simp only [List.length_cons, List.length_nil]; omega, .inr ⟨_, _, _, _, _, FnC.ptr1 0 hS, ?_⟩⟩
     rw [Int.toNat_natCast, set_snoc]
     exact hL
theorem chs_len2 (b : List Int) : (chars b).1.length ≤ b.length + 1 := chars_len b
theorem Read_ok (b : List Int) (hb : Bytes b) (dp : Int) : Fn Tryz.prog 15 [fzS .u8 b, fzI .i64 dp] [] (rdT (readV b dp)) [] := by
 refine read_Read_fn _ _ ?_
 obtain ⟨R, hR, hRe⟩ := exW (rdT (readV b dp)) []; rw [hRe]; clear hRe
 have hR := hR _ (Wk.refl _)
 unfold readV at hR
 unfold read_Read_H
 rw [dec_t, dec_f, dec_t, dec_f]
 by_cases c1 : dp < 1 ∨ 64 < dp
 ·rw [if_pos c1] at hR
  have hR : R (.tup [(false, [.fz (.sl 6 [])]), (false, [.fz (.int .i64 0)]), (false, [.fz (.int .i64 1)])]) [] := hR
  exact ⟨fun _ => hR, fun h1 => ⟨fun _ => hR, fun h2 => absurd c1 (by omega)⟩⟩
 rw [if_neg c1] at hR
 refine ⟨fun h => absurd (.inl h) c1, fun _ => ⟨fun h => absurd (.inr h) c1, fun _ => ⟨_, _, _, utfDecode_ok b hb, ?_⟩⟩⟩
 rw [bne_t, bne_f]
 by_cases c2 : decE b ≠ 0
 ·rw [if_pos c2] at hR
  have hR : R (.tup [(false, [.fz (.sl 6 [])]), (false, [.fz (.int .i64 (decA b))]), (false, [.fz (.int .i64 (decE b))])]) [] := hR
  exact ⟨fun _ => hR, fun h => absurd h c2⟩
 rw [if_neg c2] at hR
 have hdl : (decL b).length ≤ 65537 := by
  unfold decL
  split
  ·simp
  ·split
   ·have := chs_len2 b
    omega
   ·simp
 refine ⟨fun h => absurd h c2, fun _ => ⟨_, _, _, tScan_ok (decL b) (by omega), ?_⟩⟩
 rw [bne_t, bne_f]
 by_cases c3 : (scanV (decL b)).2.2 ≠ 0
 ·rw [if_pos c3] at hR
  have hR : R (.tup [(false, [.fz (.sl 6 [])]), (false, [.fz (.int .i64 (scanV (decL b)).2.1)]), (false, [.fz (.int .i64 (scanV (decL b)).2.2)])]) [] := hR
  exact ⟨fun _ => hR, fun h => absurd h c3⟩
 rw [if_neg c3] at hR
 refine ⟨fun h => absurd h c3, fun _ => ?_⟩
 have hl := scanV_len (decL b)
 have hpl := scanV_plain (decL b)
 have hil := ints_len .i64 (decL b)
 rw [hil]
 generalize (scanV (decL b)).1 = ws at *
 generalize (((decL b).length : Nat) : Int) = en at *
 have hW : ∀ q, q ≤ ws.length → RdW ws en dp q := fun q hq => rdW_all (by omega) hpl (by omega) (by omega) _ q rfl hq
 have hS := (hW 0 (by omega)).s 1 0 (by omega) (by omega) (by omega) (by omega)
 unfold readW at hR
 rw [List.drop_zero] at hS
 cases hk : skipR dp en ws 1 0 with
 | bad a e =>
  rw [hk] at hR hS
  exact .inl ⟨_, FnC.ptr1 0 hS, _, _, readDx_ok a e, hR⟩
 | ok u n nd =>
  rw [hk] at hR hS
  obtain ⟨j1, j2, j3⟩ := (rdB_all dp en _ ws rfl hpl).s _ _ _ _ (by omega) (by omega) hk
  have hL := fun n2 n3 RX => read_loop (by omega) hpl (by omega) (by omega) n2 n3 R RX _ n nd [] rfl j1 (by omega) j3 (by simp) hR
  simp only [Dt.rows] at hL
  have hS : Fn Tryz.prog 40 [rdP, fzI .i64 1] [rdO ws 0 en dp 0] (.tup []) [rdO ws (0 + n) en dp nd] := hS
  rw [Nat.zero_add] at hS
  exact .inr ⟨_, _, _, _, _, FnC.ptr1 0 hS, hL _ _ _⟩
end
set_option maxRecDepth 100000
section
def law04_answers_lv : List Nat → Keep := lvOf []
def law04_answers_H (R : TV → List Ob → Prop)  : Prop :=
 ((0 < (List.length [[(FV.int .u8 40)], [(FV.int .u8 97)], [(FV.int .u8 32)], [(FV.int .u8 46)], [(FV.int .u8 32)], [(FV.int .u8 40)], [(FV.int .u8 98)], [(FV.int .u8 41)], [(FV.int .u8 41)]])) ∧ (∃ es5 : LL, (∃ n6 : Int, (∃ n7 : Int, ((Fn Tryz.prog 15 [(TV.one (AV.fz (FV.sl 1 [[(FV.int .u8 40)], [(FV.int .u8 97)], [(FV.int .u8 32)], [(FV.int .u8 46)], [(FV.int .u8 32)], [(FV.int .u8 40)], [(FV.int .u8 98)], [(FV.int .u8 41)], [(FV.int .u8 41)]]))), (TV.one (AV.fz (FV.int .i64 5)))] [] (TV.tup [(false, [(AV.fz (FV.sl 6 es5))]), (false, [(AV.fz (FV.int .i64 n6))]), (false, [(AV.fz (FV.int .i64 n7))])]) []) ∧ ((((n7 == 0) = true) → (((((((List.length es5) : Nat) : Int) == 1) = true) → (((0 : Int) ≤ 0) ∧ (∃ n8 : Int, (∃ s2 : ByteArray, (∃ b2 : Bool, (∃ es6 : LL, (∃ es7 : LL, (∃ n9 : Int, (((es5)[(Int.toNat 0)]? = (some [(FV.int .i64 n8), (FV.str s2), (FV.bool b2), (FV.sl 1 es6), (FV.sl 6 es7), (FV.int .i64 n9)])) ∧ ((((n8 == 1) = true) → (((0 : Int) ≤ 0) ∧ (∃ n10 : Int, (∃ s3 : ByteArray, (∃ b3 : Bool, (∃ es8 : LL, (∃ es9 : LL, (∃ n11 : Int, (((es5)[(Int.toNat 0)]? = (some [(FV.int .i64 n10), (FV.str s3), (FV.bool b3), (FV.sl 1 es8), (FV.sl 6 es9), (FV.int .i64 n11)])) ∧ (R (TV.one (AV.fz (FV.bool ((((List.length es9) : Nat) : Int) == 2)))) [])))))))))) ∧ (((n8 == 1) = false) → (R (TV.one (AV.fz (FV.bool false))) [])))))))))))) ∧ ((((((List.length es5) : Nat) : Int) == 1) = false) → (R (TV.one (AV.fz (FV.bool false))) [])))) ∧ (((n7 == 0) = false) → (R (TV.one (AV.fz (FV.bool false))) []))))))))
theorem law04_answers_fn  {r : TV} {h : List Ob} (H : law04_answers_H (fun r' h' => r' = r ∧ h' = h) ) : Fn Tryz.prog 16 [] [] r h :=
 Fn.by_tr (M := (modeOf [] [])) (lv := law04_answers_lv) (own := none) (F := Tryz.f16) (by kernel_rfl) (by kernel_rfl) (by first | decide | simp) (fun _ _ h => h) (by kernel_rfl) H
def law04_own_lv : List Nat → Keep := lvOf [([0, 1, 0, 1, 1, 1], ⟨30, 0, [], false, false⟩)]
def law04_own_S0 (d0 : Int) (d1 : ByteArray) (d2 : Bool) (d3 : LL) (d4 : LL) (d5 : Int) (i : Int) (o : LL) : St := (St.mk [TV.und, (TV.one (AV.ptr 0 0 0 0)), (TV.one (AV.ptr 1 0 0 0)), (TV.one (AV.ofl 6 2)), (TV.one (AV.fz (FV.int .i64 i))), TV.und, TV.und, TV.und, TV.und, TV.und, TV.und, TV.und, TV.und, TV.und, TV.und, TV.und, TV.und, TV.und, TV.und, TV.und, TV.und, TV.und, TV.und, TV.und, TV.und, TV.und, TV.und, TV.und, TV.und, TV.und, TV.und] [(Ob.g 33 [(AV.fz (FV.int .i64 d0)), (AV.fz (FV.str d1)), (AV.fz (FV.bool d2)), (AV.ofl 1 3), (AV.fz (FV.sl 6 d4)), (AV.fz (FV.int .i64 d5))]), (Ob.g 33 [(AV.fz (FV.int .i64 0)), (AV.fz (FV.str (ByteArray.mk #[]))), (AV.fz (FV.bool false)), (AV.ofl 1 4), (AV.ofl 6 5), (AV.fz (FV.int .i64 0))]), (Ob.f 0 6 o), (Ob.f 81 1 (([] : LL) ++ d3)), (Ob.f 0 1 ([] : LL)), (Ob.f 0 6 ([] : LL))])
def law04_own_L0 (R : TV → List Ob → Prop) (d0 : Int) (d1 : ByteArray) (d2 : Bool) (d3 : LL) (d4 : LL) (d5 : Int) (i : Int) (o : LL) : Prop := LoopAt Tryz.prog (modeOf [] []) law04_own_lv Tryz.f24 none R [1, 1, 1, 0, 1, 0] (law04_own_S0 d0 d1 d2 d3 d4 d5 i o)
def law04_own_R0 (R : TV → List Ob → Prop) (d0 : Int) (d1 : ByteArray) (d2 : Bool) (d3 : LL) (d4 : LL) (d5 : Int) (i : Int) (o : LL) : Prop :=
 ((((decide (i < (((List.length d4) : Nat) : Int))) = true) → (((0 : Int) ≤ i) ∧ (∃ n8 : Int, (∃ s4 : ByteArray, (∃ b4 : Bool, (∃ es8 : LL, (∃ es9 : LL, (∃ n9 : Int, (((d4)[(Int.toNat i)]? = (some [(FV.int .i64 n8), (FV.str s4), (FV.bool b4), (FV.sl 1 es8), (FV.sl 6 es9), (FV.int .i64 n9)])) ∧ (∃ n10 : Int, (∃ s5 : ByteArray, (∃ b5 : Bool, (∃ es10 : LL, (∃ es11 : LL, (∃ n11 : Int, ((Fn Tryz.prog 24 [(TV.agg [(AV.fz (FV.int .i64 n8)), (AV.fz (FV.str s4)), (AV.fz (FV.bool b4)), (AV.fz (FV.sl 1 es8)), (AV.fz (FV.sl 6 es9)), (AV.fz (FV.int .i64 n9))])] [] (TV.agg [(AV.fz (FV.int .i64 n10)), (AV.fz (FV.str s5)), (AV.fz (FV.bool b5)), (AV.fz (FV.sl 1 es10)), (AV.fz (FV.sl 6 es11)), (AV.fz (FV.int .i64 n11))]) []) ∧ (((((List.length o) + (List.length [[(FV.int .i64 n10), (FV.str s5), (FV.bool b5), (FV.sl 1 es10), (FV.sl 6 es11), (FV.int .i64 n11)]])) * 88) ≤ 220000000000000) ∧ (law04_own_L0 R d0 d1 d2 d3 d4 d5 (IntKind.wrap .i64 (i + 1)) (o ++ [[(FV.int .i64 n10), (FV.str s5), (FV.bool b5), (FV.sl 1 es10), (FV.sl 6 es11), (FV.int .i64 n11)]]))))))))))))))))))) ∧ (((decide (i < (((List.length d4) : Nat) : Int))) = false) → (R (TV.agg [(AV.fz (FV.int .i64 d0)), (AV.fz (FV.str d1)), (AV.fz (FV.bool d2)), (AV.fz (FV.sl 1 (([] : LL) ++ d3))), (AV.fz (FV.sl 6 o)), (AV.fz (FV.int .i64 d5))]) [])))
theorem law04_own_l0 {R : TV → List Ob → Prop} {d0 : Int} {d1 : ByteArray} {d2 : Bool} {d3 : LL} {d4 : LL} {d5 : Int} {i : Int} {o : LL} (h : law04_own_R0 R d0 d1 d2 d3 d4 d5 i o) : law04_own_L0 R d0 d1 d2 d3 d4 d5 i o :=
 LoopAt.by_tr (by kernel_rfl) (by kernel_rfl) h
def law04_own_H (R : TV → List Ob → Prop) (d0 : Int) (d1 : ByteArray) (d2 : Bool) (d3 : List (List FV)) (d4 : List (List FV)) (d5 : Int) : Prop :=
 (((((List.length ([] : List (List FV))) + (List.length d3)) * 4) ≤ 220000000000000) ∧ (law04_own_L0 R d0 d1 d2 d3 d4 d5 0 ([] : List (List FV))))
theorem law04_own_fn (d0 : Int) (d1 : ByteArray) (d2 : Bool) (d3 : LL) (d4 : LL) (d5 : Int) {r : TV} {h : List Ob} (H : law04_own_H (fun r' h' => r' = r ∧ h' = h) d0 d1 d2 d3 d4 d5) : Fn Tryz.prog 24 [(TV.agg [(AV.fz (FV.int .i64 d0)), (AV.fz (FV.str d1)), (AV.fz (FV.bool d2)), (AV.fz (FV.sl 1 d3)), (AV.fz (FV.sl 6 d4)), (AV.fz (FV.int .i64 d5))])] [] r h :=
 Fn.by_tr (M := (modeOf [] [])) (lv := law04_own_lv) (own := none) (F := Tryz.f24) (by kernel_rfl) (by kernel_rfl) (by first | decide | simp) (fun _ _ h => h) (by kernel_rfl) H
def law04_light_lv : List Nat → Keep := lvOf [([0, 1, 0, 1, 1], ⟨38, 0, [], false, false⟩)]
def law04_light_S0 (d0 : Int) (d1 : ByteArray) (d2 : Bool) (d3 : LL) (d4 : LL) (d5 : Int) (depth : Int) (i : Int) : St := (St.mk [TV.und, (TV.one (AV.fz (FV.int .i64 depth))), (TV.one (AV.ptr 0 0 0 0)), TV.und, TV.und, (TV.one (AV.fz (FV.int .i64 i))), TV.und, TV.und, TV.und, TV.und, TV.und, TV.und, TV.und, TV.und, TV.und, TV.und, TV.und, TV.und, TV.und, TV.und, TV.und, TV.und, TV.und, TV.und, TV.und, TV.und, TV.und, TV.und, TV.und, TV.und] [(Ob.g 33 [(AV.fz (FV.int .i64 d0)), (AV.fz (FV.str d1)), (AV.fz (FV.bool d2)), (AV.fz (FV.sl 1 d3)), (AV.fz (FV.sl 6 d4)), (AV.fz (FV.int .i64 d5))])])
def law04_light_L0 (R : TV → List Ob → Prop) (d0 : Int) (d1 : ByteArray) (d2 : Bool) (d3 : LL) (d4 : LL) (d5 : Int) (depth : Int) (i : Int) : Prop := LoopAt Tryz.prog (modeOf [] []) law04_light_lv Tryz.f21 none R [1, 1, 0, 1, 0] (law04_light_S0 d0 d1 d2 d3 d4 d5 depth i)
def law04_light_R0 (R : TV → List Ob → Prop) (d0 : Int) (d1 : ByteArray) (d2 : Bool) (d3 : LL) (d4 : LL) (d5 : Int) (depth : Int) (i : Int) : Prop :=
 ((((decide (i < (((List.length d4) : Nat) : Int))) = true) → (((0 : Int) ≤ i) ∧ (∃ n4 : Int, (∃ s2 : ByteArray, (∃ b4 : Bool, (∃ es4 : LL, (∃ es5 : LL, (∃ n5 : Int, (((d4)[(Int.toNat i)]? = (some [(FV.int .i64 n4), (FV.str s2), (FV.bool b4), (FV.sl 1 es4), (FV.sl 6 es5), (FV.int .i64 n5)])) ∧ (∃ b5 : Bool, ((Fn Tryz.prog 21 [(TV.agg [(AV.fz (FV.int .i64 n4)), (AV.fz (FV.str s2)), (AV.fz (FV.bool b4)), (AV.fz (FV.sl 1 es4)), (AV.fz (FV.sl 6 es5)), (AV.fz (FV.int .i64 n5))]), (TV.one (AV.fz (FV.int .i64 (IntKind.wrap .i64 (depth + 1)))))] [] (TV.one (AV.fz (FV.bool b5))) []) ∧ ((((Bool.not b5) = true) → (R (TV.one (AV.fz (FV.bool false))) [])) ∧ (((Bool.not b5) = false) → (law04_light_L0 R d0 d1 d2 d3 d4 d5 depth (IntKind.wrap .i64 (i + 1)))))))))))))))) ∧ (((decide (i < (((List.length d4) : Nat) : Int))) = false) → (R (TV.one (AV.fz (FV.bool true))) [])))
theorem law04_light_l0 {R : TV → List Ob → Prop} {d0 : Int} {d1 : ByteArray} {d2 : Bool} {d3 : LL} {d4 : LL} {d5 : Int} {depth : Int} {i : Int} (h : law04_light_R0 R d0 d1 d2 d3 d4 d5 depth i) : law04_light_L0 R d0 d1 d2 d3 d4 d5 depth i :=
 LoopAt.by_tr (by kernel_rfl) (by kernel_rfl) h
def law04_light_H (R : TV → List Ob → Prop) (d0 : Int) (d1 : ByteArray) (d2 : Bool) (d3 : LL) (d4 : LL) (d5 : Int) (depth : Int) : Prop :=
 ((((decide ((100 : Int) < depth)) = true) → (R (TV.one (AV.fz (FV.bool false))) [])) ∧ (((decide ((100 : Int) < depth)) = false) → ((((decide ((9000 : Int) < (((List.length d4) : Nat) : Int))) = true) → (R (TV.one (AV.fz (FV.bool false))) [])) ∧ (((decide ((9000 : Int) < (((List.length d4) : Nat) : Int))) = false) → (law04_light_L0 R d0 d1 d2 d3 d4 d5 depth 0)))))
theorem law04_light_fn (d0 : Int) (d1 : ByteArray) (d2 : Bool) (d3 : LL) (d4 : LL) (d5 : Int) (depth : Int) {r : TV} {h : List Ob} (H : law04_light_H (fun r' h' => r' = r ∧ h' = h) d0 d1 d2 d3 d4 d5 depth) : Fn Tryz.prog 21 [(TV.agg [(AV.fz (FV.int .i64 d0)), (AV.fz (FV.str d1)), (AV.fz (FV.bool d2)), (AV.fz (FV.sl 1 d3)), (AV.fz (FV.sl 6 d4)), (AV.fz (FV.int .i64 d5))]), (TV.one (AV.fz (FV.int .i64 depth)))] [] r h :=
 Fn.by_tr (M := (modeOf [] [])) (lv := law04_light_lv) (own := none) (F := Tryz.f21) (by kernel_rfl) (by kernel_rfl) (by first | decide | simp) (fun _ _ h => h) (by kernel_rfl) H
end
section
theorem own4_loop (k : Int) (t : ByteArray) (n : Bool) (l : List Int) (a : Int) (xs : List Dt) (hl : xs.length ≤ 1048576) (hp : ∀ x ∈ xs, Fn Tryz.prog 24 [fzD x] [] (fzD x) [])
  (R : TV → List Ob → Prop) (hR : R (fzD (.mk k t n l xs a)) []) : ∀ (d j : Nat), j + d = xs.length → law04_own_L0 R k t n (ints .u32 l) (Dt.rows xs) a j (Dt.rows (xs.take j))
 | 0, j, hj => by
  refine law04_own_l0 ?_
  unfold law04_own_R0
  rw [rows_len, dec_t, dec_f, List.nil_append]
  refine ⟨fun h => by omega, fun _ => ?_⟩
  rw [List.take_of_length_le (by omega)]
  unfold fzD at hR
  simp only [Dt.row, List.map_cons, List.map_nil] at hR
  exact hR
 | d + 1, j, hj => by
  have hF := hp xs[j] (List.getElem_mem _)
  have hr : (Dt.rows xs)[Int.toNat (j : Int)]? = some xs[j].row := by rw [rows_get, Int.toNat_natCast, List.getElem?_eq_getElem (by omega)]; rfl
  have ht : xs.take (j + 1) = xs.take j ++ [xs[j]] := List.take_succ_eq_append_getElem (by omega)
  have ih := own4_loop k t n l a xs hl hp R hR d (j + 1) (by omega)
  rw [ht, rows_app] at ih
  generalize xs[j] = y at hF hr ih
  obtain ⟨k', t', n', l', ys, a'⟩ := y
  unfold fzD at hF
  simp only [Dt.row, Dt.rows, List.map_cons, List.map_nil] at hF hr ih
  refine law04_own_l0 ?_
  unfold law04_own_R0
  have e : IntKind.wrap .i64 ((j : Int) + 1) = ((j + 1 : Nat) : Int) := w64 (by omega) (by omega)
  rw [rows_len, dec_t, dec_f, e]
  refine ⟨fun _ => ⟨by omega, _, _, _, _, _, _, hr, _, _, _, _, _, _, hF, ?_, ih⟩, fun h => by omega⟩
  rw [rows_len, List.length_take, List.length_singleton]
  omega
mutual
theorem own4_ok : ∀ (x : Dt), x.ok → Fn Tryz.prog 24 [fzD x] [] (fzD x) []
 | .mk k t n l xs a, hok => by
  unfold Dt.ok at hok
  obtain ⟨_, _, _, hl4, hxl, hxs, _⟩ := hok
  have hall := own4_all xs hxs
  obtain ⟨R, hR, hRe⟩ := exR (fzD (.mk k t n l xs a))
  have hR' := hR
  unfold fzD at hRe ⊢
  simp only [Dt.row, List.map_cons, List.map_nil] at hRe ⊢
  refine law04_own_fn _ _ _ _ _ _ ?_
  rw [hRe]
  clear hRe
  unfold law04_own_H
  rw [List.length_nil, ints_len]
  exact ⟨by omega, by simpa [Dt.rows] using own4_loop k t n l a xs hxl hall R hR' xs.length 0 (by omega)⟩
theorem own4_all : ∀ (xs : List Dt), Dt.oks xs → ∀ x ∈ xs, Fn Tryz.prog 24 [fzD x] [] (fzD x) []
 | [], hok => fun x hx => by cases hx
 | y :: xs, hok => fun x hx => by
  unfold Dt.oks at hok
  have h1 := own4_ok y hok.1
  have h2 := own4_all xs hok.2
  rcases List.mem_cons.1 hx with rfl | hx
  ·exact h1
  ·exact h2 x hx
end
theorem light4_loop (k : Int) (t : ByteArray) (n : Bool) (l : List Int) (a : Int) (xs : List Dt) (hl : xs.length ≤ 1048576) (dp : Int) (hp : ∀ x ∈ xs, ∃ b, Fn Tryz.prog 21 [fzD x, fzI .i64 (IntKind.wrap .i64 (dp + 1))] [] (fzB b) []) :
  ∀ (d j : Nat), j + d = xs.length → ∃ b, ∀ R : TV → List Ob → Prop, R (fzB b) [] → law04_light_L0 R k t n (ints .u32 l) (Dt.rows xs) a dp j
 | 0, j, hj => by
  refine ⟨true, fun R hR => law04_light_l0 ?_⟩
  unfold law04_light_R0
  rw [rows_len, dec_t, dec_f]
  exact ⟨fun h => by omega, fun _ => hR⟩
 | d + 1, j, hj => by
  obtain ⟨b, hF⟩ := hp xs[j] (List.getElem_mem _)
  have hr : (Dt.rows xs)[Int.toNat (j : Int)]? = some xs[j].row := by rw [rows_get, Int.toNat_natCast, List.getElem?_eq_getElem (by omega)]; rfl
  obtain ⟨b2, ih⟩ := light4_loop k t n l a xs hl dp hp d (j + 1) (by omega)
  generalize xs[j] = y at hF hr
  obtain ⟨k', t', n', l', ys, a'⟩ := y
  unfold fzD at hF
  simp only [Dt.row, Dt.rows, List.map_cons, List.map_nil] at hF hr
  have e : IntKind.wrap .i64 ((j : Int) + 1) = ((j + 1 : Nat) : Int) := w64 (by omega) (by omega)
  refine ⟨if b = true then b2 else false, fun R hR => law04_light_l0 ?_⟩
  unfold law04_light_R0
  rw [rows_len, dec_t, dec_f, e]
  refine ⟨fun _ => ⟨by omega, _, _, _, _, _, _, hr, b, hF, fun h => ?_, fun h => ?_⟩, fun h => by omega⟩
  ·have : b = false := by simpa using h
   rw [this] at hR
   exact hR
  ·have : b = true := by simpa using h
   rw [this] at hR
   exact ih R hR
mutual
theorem light4_ok : ∀ (x : Dt) (dp : Int), x.ok → ∃ b, Fn Tryz.prog 21 [fzD x, fzI .i64 dp] [] (fzB b) []
 | .mk k t n l xs a, dp, hok => by
  unfold Dt.ok at hok
  obtain ⟨_, _, _, hl4, hxl, hxs, _⟩ := hok
  have hall := light4_all xs (IntKind.wrap .i64 (dp + 1)) hxs
  obtain ⟨b, hb⟩ := light4_loop k t n l a xs hxl dp hall xs.length 0 (by omega)
  refine ⟨if 100 < dp then false else if 9000 < xs.length then false else b, law04_light_fn _ _ _ _ _ _ _ ?_⟩
  obtain ⟨R, hR, hRe⟩ := exR (fzB (if 100 < dp then false else if 9000 < xs.length then false else b))
  rw [hRe]; clear hRe
  unfold law04_light_H
  rw [rows_len]
  simp only [dec_t, dec_f]
  refine ⟨fun h => ?_, fun h => ⟨fun h2 => ?_, fun h2 => ?_⟩⟩
  ·rw [if_pos h] at hR; exact hR
  ·rw [if_neg h, if_pos (by omega)] at hR; exact hR
  ·rw [if_neg h, if_neg (by omega)] at hR; exact hb R hR
theorem light4_all : ∀ (xs : List Dt) (dp : Int), Dt.oks xs → ∀ x ∈ xs, ∃ b, Fn Tryz.prog 21 [fzD x, fzI .i64 dp] [] (fzB b) []
 | [], dp, hok => fun x hx => by cases hx
 | y :: xs, dp, hok => fun x hx => by
  unfold Dt.oks at hok
  have h1 := light4_ok y dp hok.1
  have h2 := light4_all xs dp hok.2
  rcases List.mem_cons.1 hx with rfl | hx
  ·exact h1
  ·exact h2 x hx
end
end
section
theorem skipR_nil (dp en d nd : Int) : skipR dp en [] d nd = .ok () 0 nd := by unfold skipR; rfl
theorem skipR_no {dp en d nd : Int} {t : Tok} {r : List Tok} (h : t.kind ≠ 5) : skipR dp en (t :: r) d nd = .ok () 0 nd := by
 unfold skipR
 try simp only
 rw [if_neg h]
theorem datR_leaf {dp en d nd : Int} {t : Tok} {r : List Tok} (h : t.kind = 7) (hb : begE dp d nd = 0) : datR dp en (t :: r) d nd = .ok t.d 1 (nd + 1) := by
 unfold datR
 try simp only
 rw [if_neg (by omega), if_neg (by rw [hb]; simp), if_pos h]
theorem datR_abb {dp en d nd : Int} {t : Tok} {r : List Tok} (h : t.kind = 6) (hb : begE dp d nd = 0) (hb2 : begE dp (d + 1) (nd + 1) = 0) : datR dp en (t :: r) d nd = match behR dp en r (d + 1) (nd + 2) with
  | .bad a e => .bad a e
  | .ok x n nd1 => .ok (lsD 1 [lf 4 t.name false [] t.at_, x] t.at_) (1 + n) nd1 := by
 rw [datR.eq_def]; simp only; rw [if_neg (by omega), if_neg (by rw [hb]; simp), if_neg (by omega), if_pos h, if_neg (by rw [hb2]; simp)]
 cases behR dp en r (d + 1) (nd + 2) <;> rfl
theorem datR_vec {dp en d nd : Int} {t : Tok} {r : List Tok} (h : t.kind = 3) (hb : begE dp d nd = 0) : datR dp en (t :: r) d nd = match insR dp en r (d + 1) true [] none (nd + 1) with
  | .bad a e => .bad a e
  | .ok v n nd1 => .ok (lsD 3 v.1 t.at_) (1 + n) nd1 := by
 rw [datR.eq_def]; simp only; rw [if_neg (by omega), if_neg (by rw [hb]; simp), if_neg (by omega), if_neg (by omega), if_pos h]
 cases insR dp en r (d + 1) true [] none (nd + 1) <;> rfl
theorem datR_open {dp en d nd : Int} {t : Tok} {r : List Tok} (h : t.kind = 1) (hb : begE dp d nd = 0) : datR dp en (t :: r) d nd = match insR dp en r (d + 1) false [] none (nd + 1) with
  | .bad a e => .bad a e
  | .ok v n nd1 => .ok (endD v.1 v.2 t.at_) (1 + n) nd1 := by
 rw [datR.eq_def]; simp only; rw [if_neg (by omega), if_neg (by rw [hb]; simp), if_neg (by omega), if_neg (by omega), if_neg (by omega)]
 cases insR dp en r (d + 1) false [] none (nd + 1) <;> rfl
theorem behR_item {dp en d nd : Int} {t : Tok} {r : List Tok} (h : t.kind ≠ 5 ∧ t.kind ≠ 2 ∧ t.kind ≠ 4) : behR dp en (t :: r) d nd = datR dp en (t :: r) d nd := by
 rw [behR.eq_def, skipR_no h.1]
 simp only [List.drop_zero]
 rw [if_neg (by omega)]
 cases datR dp en (t :: r) d nd with
 | bad a e => rfl
 | ok x m nd2 => simp only [Nat.zero_add]
theorem insR_close {dp en d nd : Int} {v : Bool} {acc : List Dt} {tail : Option Dt} {t : Tok} {r : List Tok} (h : t.kind = 2) : insR dp en (t :: r) d v acc tail nd = .ok (acc, tail) 1 nd := by
 rw [insR.eq_def, skipR_no (by omega)]
 simp only
 split
 ·rename_i he; simp at he
 ·rename_i t' r' he
  rw [List.drop_zero] at he
  cases he
  rw [if_pos h]
theorem insR_item {dp en d nd : Int} {v : Bool} {acc : List Dt} {t : Tok} {r : List Tok} (h : t.kind ≠ 5 ∧ t.kind ≠ 2 ∧ t.kind ≠ 4) : insR dp en (t :: r) d v acc none nd = match datR dp en (t :: r) d nd with
  | .bad a e => .bad a e
  | .ok x m nd2 => match insR dp en (r.drop (m - 1)) d v (acc ++ [x]) none nd2 with
   | .bad a e => .bad a e
   | .ok w k nd3 => .ok w (m + k) nd3 := by
 rw [insR.eq_def, skipR_no h.1]
 simp only
 split
 ·rename_i he; simp at he
 ·rename_i t' r' he
  rw [List.drop_zero] at he
  cases he
  rw [if_neg h.2.1, if_neg (by simp), if_pos h.2.2, List.drop_zero]
  cases datR dp en (t :: r) d nd with
  | bad a e => rfl
  | ok x m nd2 =>
   simp only
   cases insR dp en (r.drop (m - 1)) d v (acc ++ [x]) none nd2 with
   | bad a e => rfl
   | ok w k nd3 => simp only [Nat.zero_add]
theorem insR_dot {dp en d nd : Int} {acc : List Dt} {t : Tok} {r : List Tok} (h : t.kind = 4) (ha : acc ≠ []) : insR dp en (t :: r) d false acc none nd = match behR dp en r d nd with
  | .bad a e => .bad a e
  | .ok x m nd2 => match insR dp en (r.drop m) d false acc (some x) nd2 with
   | .bad a e => .bad a e
   | .ok w k nd3 => .ok w (1 + m + k) nd3 := by
 rw [insR.eq_def, skipR_no (by omega)]
 simp only
 split
 ·rename_i he; simp at he
 ·rename_i t' r' he
  rw [List.drop_zero] at he
  cases he
  rw [if_neg (by omega), if_neg (by simp), if_neg (by omega), if_neg (by simp [ha])]
  cases behR dp en r d nd with
  | bad a e => rfl
  | ok x m nd2 =>
   simp only
   cases insR dp en (r.drop m) d false acc (some x) nd2 with
   | bad a e => rfl
   | ok w k nd3 => simp only [Nat.zero_add]
theorem topR_nil (dp en nd : Int) (acc : List Dt) : topR dp en [] nd acc = .ok acc 0 nd := by unfold topR; rfl
theorem topR_cons (dp en nd : Int) (acc : List Dt) (t : Tok) (r : List Tok) : topR dp en (t :: r) nd acc = match datR dp en (t :: r) 1 nd with
  | .bad a e => .bad a e
  | .ok x m nd1 => match skipR dp en (r.drop (m - 1)) 1 nd1 with
   | .bad a e => .bad a e
   | .ok _ k nd2 => topR dp en (r.drop (m - 1 + k)) nd2 (acc ++ [x]) := by
 rw [topR.eq_def]
 try simp only
 all_goals (cases datR dp en (t :: r) 1 nd with
 | bad a e => rfl
 | ok x m nd1 =>
  simp only
  cases skipR dp en (r.drop (m - 1)) 1 nd1 <;> rfl)
def ansB : List Int := [40, 97, 32, 46, 32, 40, 98, 41, 41]
def ansT : List Tok := [⟨1, [], lf 0 [] false [] 0, 0⟩, ⟨7, [], lf 4 [97] false [] 1, 1⟩, ⟨4, [], lf 0 [] false [] 0, 3⟩, ⟨1, [], lf 0 [] false [] 0, 5⟩, ⟨7, [], lf 4 [98] false [] 6, 6⟩, ⟨2, [], lf 0 [] false [] 0, 7⟩, ⟨2, [], lf 0 [] false [] 0, 8⟩]
theorem ans_dec : decE ansB = 0 ∧ decL ansB = ansB := by decide +kernel
theorem ans_scan : scanV ansB = (ansT, 0, 0) := by kernel_rfl
theorem ans_read : readV ansB 5 = ([lsD 1 [lf 4 [97] false [] 1, lf 4 [98] false [] 6] 0], 0, 0) := by
 unfold readV
 rw [if_neg (by omega), ans_dec.1, ans_dec.2, ans_scan]
 rw [if_neg (by simp), if_neg (by simp)]
 unfold readW ansT
 rw [skipR_no (by decide)]
 simp only [List.drop_zero]
 rw [topR_cons, datR_open rfl (by decide), insR_item (by decide), datR_leaf rfl (by decide)]
 simp only [List.drop_zero, List.nil_append, Nat.sub_self]
 rw [insR_dot rfl (by simp), behR_item (by decide), datR_open rfl (by decide), insR_item (by decide), datR_leaf rfl (by decide)]
 simp only [List.drop_zero, List.nil_append, Nat.sub_self]
 rw [insR_close rfl]
 simp only [Nat.reduceAdd, List.drop_succ_cons, List.drop_zero]
 rw [insR_close rfl]
 simp only [Nat.reduceAdd, Nat.reduceSub, List.drop_succ_cons, List.drop_zero, List.drop_nil]
 rw [skipR_nil]
 simp only [Nat.reduceAdd, Nat.reduceSub, List.drop_succ_cons, List.drop_zero, List.drop_nil]
 rw [topR_nil]
 rfl
theorem answers04_ok : Fn Tryz.prog 16 [] [] (fzB true) [] := by
 have h := Read_ok ansB (by unfold ansB; intro x hx; simp at hx; omega) 5
 rw [ans_read] at h
 refine law04_answers_fn ?_
 unfold law04_answers_H
 unfold rdT at h
 simp only [lsD, lf, Dt.rows, Dt.row] at h
 refine ⟨by simp, _, _, _, h, fun _ => ⟨fun _ => ⟨by omega, _, _, _, _, _, _, rfl, fun _ => ⟨by omega, _, _, _, _, _, _, rfl, rfl, rfl⟩, fun h => absurd h (by decide)⟩, fun h => absurd h (by decide)⟩, fun h => absurd h (by decide)⟩
end
section
open Go Go.RowKit
theorem rcN_str (T : List Int) (hT : Bytes T) : (0 ≤ rcN T ∧ rcN T ≤ 4096) ↔ ((chars T).2 < 0 ∧ (chL T).length ≤ 4096 ∧ T.length ≤ 65536) := by
 unfold rcN chL
 rcases chs_bad (T.length + 1) 0 T [] with h | h
 ·have h' : (chars T).2 = -1 := h
  rw [if_pos h', if_pos h']
  split <;> omega
 ·have h' : ¬ (chars T).2 = -1 := fun e => by have : (chars T).2 = -1 := e; unfold chars at this; omega
  have h'' : ¬ (chars T).2 < 0 := fun e => by unfold chars at e; omega
  rw [if_neg h', if_neg h']
  split <;> omega
theorem rcN_one (T : List Int) (hT : Bytes T) : (rcN T = 1) ↔ ((chars T).2 < 0 ∧ (chL T).length = 1) := by
 unfold rcN chL
 rcases chs_bad (T.length + 1) 0 T [] with h | h
 ·have h' : (chars T).2 = -1 := h
  have h4 := chars_four hT h'
  rw [if_pos h', if_pos h']
  split <;> omega
 ·have h' : ¬ (chars T).2 = -1 := fun e => by have : (chars T).2 = -1 := e; unfold chars at this; omega
  have h'' : ¬ (chars T).2 < 0 := fun e => by unfold chars at e; omega
  rw [if_neg h', if_neg h']
  split <;> omega
def Dt.siz (x : Dt) (dp room : Int) : Int := if x.meas dp room < 0 then 100000 else x.meas dp room
theorem rSize_loop (k : Int) (t : ByteArray) (n : Bool) (l : List Int) (a : Int) (xs : List Dt) (hl : xs.length * 88 ≤ 140737488355328) (dp room : Int) (hd0 : 0 ≤ dp) (hd1 : dp ≤ 64) (hr : room ≤ 8192)
  (hp : ∀ x ∈ xs, ∀ r : Int, r ≤ 8192 → -8192 ≤ r → Fn Tryz.prog 43 [fzD x, fzI .i64 (dp + 1), fzI .i64 r] [] (fzI .i64 (x.siz (dp + 1) r)) [])
  (R : TV → List Ob → Prop) (hR : R (fzI .i64 (if dotB k xs = true ∧ 0 ≤ Dt.measL xs (dp + 1) room 1 then Dt.measL xs (dp + 1) room 1 else 100000)) []) :
  ∀ (d j : Nat) (m : Int), j + d = xs.length → 1 ≤ m → m ≤ room → Dt.measL xs (dp + 1) room 1 = Dt.measL (xs.drop j) (dp + 1) room m → ref02_size_L0 R k t n (ints .u32 l) (Dt.rows xs) a dp room m j
 | 0, j, m, hj, h0, h1, h => by
  refine ref02_size_l0 ?_
  unfold ref02_size_R0
  rw [rows_len, dec_t, dec_f]
  refine ⟨fun h => by omega, fun _ => ?_⟩
  rw [h, List.drop_of_length_le (by omega)] at hR
  unfold Dt.measL at hR
  rw [beq_t, beq_f]
  refine ⟨fun h3 => ?_, fun h3 => ?_⟩
  ·subst h3
   rw [dec_t, dec_f]
   refine ⟨fun h4 => ?_, fun h4 => ?_⟩
   ·rw [if_neg (by rw [dotB_short (by omega)]; simp)] at hR; exact hR
   ·obtain ⟨x, hx⟩ := getLast_some (ds := xs) (by omega)
    obtain ⟨g1, g2⟩ := rows_last hx
    have e := dotB_some hx
    rw [decide_eq_true (show 2 ≤ xs.length by omega), Bool.true_and] at e
    have e1 : IntKind.wrap .i64 ((xs.length : Int) - 1) = ((xs.length - 1 : Nat) : Int) := by rw [w64 (by omega) (by omega)]; omega
    rw [e1, Int.toNat_natCast]
    obtain ⟨k', t', n', l', ys, a'⟩ := x
    simp only [Dt.row] at g2
    have ek : (Dt.mk k' t' n' l' ys a').kind = k' := rfl
    rw [ek] at e
    refine ⟨by omega, _, _, _, _, _, _, g2, ?_⟩
    rw [beq_t, beq_f]
    refine ⟨fun h5 => ?_, fun h5 => ⟨by omega, _, _, _, _, _, _, g2, ?_⟩⟩
    ·rw [decide_eq_false (fun hx => hx h5), Bool.false_and] at e
     rw [if_neg (by rw [e]; simp)] at hR; exact hR
    ·rw [beq_t, beq_f]
     refine ⟨fun h6 => ?_, fun h6 => ?_⟩
     ·rw [decide_eq_false (p := k' ≠ 2) (fun hx => hx h6), Bool.and_false] at e
      rw [if_neg (by rw [e]; simp)] at hR; exact hR
     ·rw [decide_eq_true h5, decide_eq_true h6] at e
      rw [if_pos ⟨e, by omega⟩] at hR; exact hR
  ·rw [if_pos ⟨dotB_ne h3, by omega⟩] at hR; exact hR
 | d + 1, j, m, hj, h0, h1, h => by
  have hF := hp xs[j] (List.getElem_mem _) (room - m) (by omega) (by omega)
  have hr' := drow_at (List.getElem?_eq_getElem (show j < xs.length by omega))
  have hd : xs.drop j = xs[j] :: xs.drop (j + 1) := List.drop_eq_getElem_cons (by omega)
  have hle := meas_le xs[j] (dp + 1) (room - m)
  rw [hd] at h
  simp only [Dt.measL] at h
  unfold Dt.siz at hF
  generalize xs[j] = y at hF hr' h hle
  obtain ⟨k', t', n', l', ys, a'⟩ := y
  unfold fzD at hF
  simp only [Dt.row, List.map_cons, List.map_nil] at hF hr'
  refine ref02_size_l0 ?_
  unfold ref02_size_R0
  have e : IntKind.wrap .i64 ((j : Int) + 1) = ((j + 1 : Nat) : Int) := w64 (by omega) (by omega)
  have e2 : IntKind.wrap .i64 (dp + 1) = dp + 1 := w64 (by omega) (by omega)
  have e3 : IntKind.wrap .i64 (room - m) = room - m := w64 (by omega) (by omega)
  rw [rows_len, dec_t, dec_f, e, e2, e3]
  refine ⟨fun _ => ⟨by omega, _, _, _, _, _, _, hr', _, hF, ?_⟩, fun h => by omega⟩
  rw [dec_t, dec_f]
  generalize (Dt.mk k' t' n' l' ys a').meas (dp + 1) (room - m) = q at *
  by_cases hq : q < 0
  ·rw [if_pos hq] at h ⊢
   have e4 : IntKind.wrap .i64 (m + 100000) = m + 100000 := w64 (by omega) (by omega)
   rw [e4]
   refine ⟨fun _ => ?_, fun h2 => by omega⟩
   rw [if_neg (by omega)] at hR; exact hR
  ·rw [if_neg hq] at h ⊢
   have e4 : IntKind.wrap .i64 (m + q) = m + q := w64 (by omega) (by omega)
   rw [e4]
   refine ⟨fun h2 => by omega, fun _ => ?_⟩
   exact rSize_loop k t n l a xs hl dp room hd0 hd1 hr hp R hR d (j + 1) (m + q) (by omega) (by omega) (by omega) h
set_option maxHeartbeats 1000000 in
theorem rSize_head (k : Int) (t : ByteArray) (n : Bool) (l : List Int) (xs : List Dt) (a dp room : Int) (ht : t.size ≤ 1048576) (hl : l.length * 4 ≤ 140737488355328) (h1 : ¬ 64 < dp) (h2 : ¬ room < 1) (R : TV → List Ob → Prop)
  (hg : (k = 1 ∨ k = 3 ∨ k = 2) → plB t n l xs.length false false true = true → ref02_size_L0 R k t n (ints .u32 l) (Dt.rows xs) a dp room 1 0)
  (hb : (k = 1 ∨ k = 3 ∨ k = 2) → plB t n l xs.length false false true = false → R (fzI .i64 100000) [])
  (hy : ¬ (k = 1 ∨ k = 3 ∨ k = 2) → leafB k t n l xs.length = true → R (fzI .i64 1) [])
  (hn : ¬ (k = 1 ∨ k = 3 ∨ k = 2) → leafB k t n l xs.length = false → R (fzI .i64 100000) []) : ref02_size_H R k t n (ints .u32 l) (Dt.rows xs) a dp room := by
 unfold ref02_size_H
 have hA := rAtom_ok (bs t) (bs_bytes t) (by rw [← size_bs]; omega)
 have hC := rChars_ok (bs t) (bs_bytes t) (by rw [← size_bs]; omega)
 rw [of_bs] at hA
 have hB := fun x y z => rBare_ok k t n l xs a x y z
 rw [map_bs, size_bs]
 have leaf : ∀ (k' : Int) (b : Bool), k = k' → ¬ (k' = 1 ∨ k' = 3 ∨ k' = 2) → leafB k' t n l xs.length = b → (b = true → R (fzI .i64 1) []) ∧ (b = false → R (fzI .i64 100000) []) := by
  intro k' b e h3 h4
  subst e
  exact ⟨fun h => hy h3 (by rw [h4, h]), fun h => hn h3 (by rw [h4, h])⟩
 have list : ∀ (k' : Int), k = k' → (k' = 1 ∨ k' = 3 ∨ k' = 2) → ∃ b : Bool, Fn Tryz.prog 73 [fzD' k t n l xs a, fzB false, fzB false, fzB true] [] (fzB b) [] ∧ ((Bool.not b) = true → R (fzI .i64 100000) []) ∧ ((Bool.not b) = false → ref02_size_L0 R k t n (ints .u32 l) (Dt.rows xs) a dp room 1 0) := by
  intro k' e h3
  subst e
  exact ⟨_, hB _ _ _, fun h => hb h3 (by simpa using h), fun h => hg h3 (by simpa using h)⟩
 rw [dec_t, dec_f, dec_t, dec_f]
 refine ⟨fun h => absurd h h1, fun _ => ⟨fun h => absurd h h2, fun _ => ?_⟩⟩
 simp only [beq_t, beq_f]
 refine ⟨fun h => list 1 h (by omega), fun k1 => ⟨fun h => list 2 h (by omega), fun k2 => ⟨fun h => list 3 h (by omega), fun k3 => ⟨fun h => ?_, fun k4 => ⟨fun h => ?_, fun k5 => ⟨fun h => ?_, fun k6 => ⟨fun h => ?_, fun k7 => ⟨fun h => ?_, fun k8 => ⟨fun h => ?_, fun k9 => ⟨fun h => ?_, fun k10 => ⟨fun h => ?_, fun k11 => ?_⟩⟩⟩⟩⟩⟩⟩⟩⟩⟩⟩
 ·have g := leaf 4 _ h (by omega) rfl
  unfold leafB at g
  rw [if_pos rfl] at g
  refine ⟨_, _, _, _, _, _, _, hA, fun h5 => ⟨fun h6 => ⟨_, hB _ _ _, ?_⟩, fun h6 => ?_⟩, fun h5 => ?_⟩
  ·rw [decide_eq_true h6, Bool.true_and] at g; exact g
  ·rw [decide_eq_false h6, Bool.false_and] at g; exact g.2 rfl
  ·have : ¬ atomK (bs t) = 4 := fun h6 => by rw [h6] at h5; simp at h5
   rw [decide_eq_false this, Bool.false_and] at g; exact g.2 rfl
 ·have g := leaf 5 _ h (by omega) rfl
  unfold leafB at g
  rw [if_neg (by omega), if_pos rfl] at g
  have hs := rcN_str (bs t) (bs_bytes t)
  refine ⟨_, _, hC, ?_⟩
  rw [ints_len, dec_t, dec_f, dec_t, dec_f, dec_t, dec_f]
  refine ⟨fun h5 => ⟨fun h6 => ⟨fun h7 => ⟨_, hB _ _ _, ?_⟩, fun h7 => ?_⟩, fun h6 => ?_⟩, fun h5 => ?_⟩
  ·rw [decide_eq_true (hs.2 ⟨h5, by omega, by omega⟩), Bool.true_and] at g; exact g
  ·rw [decide_eq_false (fun hx => by have := hs.1 hx; omega), Bool.false_and] at g; exact g.2 rfl
  ·rw [decide_eq_false (fun hx => by have := hs.1 hx; omega), Bool.false_and] at g; exact g.2 rfl
  ·rw [decide_eq_false (fun hx => by have := hs.1 hx; omega), Bool.false_and] at g; exact g.2 rfl
 ·have g := leaf 6 _ h (by omega) rfl
  unfold leafB at g
  rw [if_neg (by omega), if_neg (by omega), if_pos rfl] at g
  have hs := rcN_one (bs t) (bs_bytes t)
  refine ⟨_, _, hC, ?_⟩
  rw [ints_len, dec_t, dec_f]
  refine ⟨fun h5 => ⟨fun h6 => ⟨_, hB _ _ _, ?_⟩, fun h6 => ?_⟩, fun h5 => ?_⟩
  ·rw [decide_eq_true (hs.2 ⟨h5, by omega⟩), Bool.true_and] at g; exact g
  ·rw [decide_eq_false (fun hx => h6 (by have := (hs.1 hx).2; omega)), Bool.false_and] at g; exact g.2 rfl
  ·rw [decide_eq_false (fun hx => h5 (hs.1 hx).1), Bool.false_and] at g; exact g.2 rfl
 ·have g := leaf 7 _ h (by omega) rfl
  unfold leafB at g
  rw [if_neg (by omega), if_neg (by omega), if_neg (by omega), if_pos rfl] at g
  refine ⟨_, rsound_ok n l (by omega), fun h5 => ⟨_, hB _ _ _, ?_⟩, fun h5 => ?_⟩
  ·rw [h5, Bool.true_and] at g; exact g
  ·rw [h5, Bool.false_and] at g; exact g.2 rfl
 ·have g := leaf 8 _ h (by omega) rfl
  unfold leafB at g
  rw [if_neg (by omega), if_neg (by omega), if_neg (by omega), if_neg (by omega), if_neg (by omega), if_pos (by omega)] at g
  exact ⟨_, hB _ _ _, g⟩
 ·have g := leaf 9 _ h (by omega) rfl
  unfold leafB at g
  rw [if_neg (by omega), if_neg (by omega), if_neg (by omega), if_neg (by omega), if_neg (by omega), if_pos (by omega)] at g
  exact ⟨_, hB _ _ _, g⟩
 ·have g := leaf 10 _ h (by omega) rfl
  unfold leafB at g
  rw [if_neg (by omega), if_neg (by omega), if_neg (by omega), if_neg (by omega), if_neg (by omega), if_pos (by omega)] at g
  exact ⟨_, hB _ _ _, g⟩
 ·have g := leaf 11 _ h (by omega) rfl
  unfold leafB at g
  rw [if_neg (by omega), if_neg (by omega), if_neg (by omega), if_neg (by omega), if_pos rfl] at g
  exact ⟨_, hB _ _ _, g⟩
 ·refine hn (by omega) ?_
  unfold leafB
  rw [if_neg (by omega), if_neg (by omega), if_neg (by omega), if_neg (by omega), if_neg (by omega), if_neg (by omega)]
mutual
theorem rSize_ok : ∀ (x : Dt) (dp room : Int), x.ok → 0 ≤ dp → dp ≤ 100 → room ≤ 8192 → -8192 ≤ room → Fn Tryz.prog 43 [fzD x, fzI .i64 dp, fzI .i64 room] [] (fzI .i64 (x.siz dp room)) []
 | .mk k t n l xs a, dp, room, hok, h0, h1, h2, h3 => by
  unfold Dt.ok at hok
  obtain ⟨_, ht, _, hl4, hxl, hxs, _⟩ := hok
  have hxl : xs.length * 88 ≤ 140737488355328 := by omega
  have hall := fun (h64 : ¬ 64 < dp) => rSize_all xs (dp + 1) hxs (by omega) (by omega)
  unfold fzD
  simp only [Dt.row, List.map_cons, List.map_nil]
  refine ref02_size_fn _ _ _ _ _ _ _ _ ?_
  obtain ⟨R, hR, hRe⟩ : ∃ R : TV → List Ob → Prop, R (fzI .i64 ((Dt.mk k t n l xs a).siz dp room)) [] ∧ (fun r' h' => r' = (fzI .i64 ((Dt.mk k t n l xs a).siz dp room)) ∧ h' = []) = R := ⟨_, ⟨rfl, rfl⟩, rfl⟩
  rw [hRe]
  clear hRe
  unfold Dt.siz at hR
  have go : ∀ q : Int, (Dt.mk k t n l xs a).meas dp room = q → R (fzI .i64 (if q < 0 then 100000 else q)) [] := fun q hq => by rw [hq] at hR; exact hR
  by_cases h4 : 64 < dp
  ·have g := go (-1) (by unfold Dt.meas; rw [if_pos (.inl h4)])
   unfold ref02_size_H
   rw [dec_t, dec_f]
   exact ⟨fun _ => g, fun h => absurd h4 h⟩
  by_cases h5 : room < 1
  ·have g := go (-1) (by unfold Dt.meas; rw [if_pos (.inr h5)])
   unfold ref02_size_H
   rw [dec_t, dec_f, dec_t, dec_f]
   exact ⟨fun h => absurd h h4, fun _ => ⟨fun _ => g, fun h => absurd h5 h⟩⟩
  have hm := measL_le xs (dp + 1) room 1 (by omega) (by omega)
  have h6 : ¬ (64 < dp ∨ room < 1) := by omega
  refine rSize_head k t n l xs a dp room ht hl4 h4 h5 R (fun hk hp => ?_) (fun hk hp => ?_) (fun hk hp => ?_) (fun hk hp => ?_)
  ·by_cases hd : dotB k xs = true
   ·have g := go (Dt.measL xs (dp + 1) room 1) (by unfold Dt.meas; rw [if_neg h6, if_pos hk, hp, hd]; rfl)
    refine rSize_loop k t n l a xs hxl dp room h0 (by omega) h2 (fun x hx r hr hr' => hall h4 x hx r hr hr') R ?_ xs.length 0 1 (by omega) (by omega) (by omega) rfl
    refine cast (congrArg (fun z => R (fzI .i64 z) []) ?_) g
    by_cases h0 : Dt.measL xs (dp + 1) room 1 < 0
    ·rw [if_pos h0, if_neg (by omega)]
    ·rw [if_neg h0, if_pos ⟨hd, by omega⟩]
   ·have hd' : dotB k xs = false := by simpa using hd
    have g := go (-1) (by unfold Dt.meas; rw [if_neg h6, if_pos hk, hp, hd']; rfl)
    refine rSize_loop k t n l a xs hxl dp room h0 (by omega) h2 (fun x hx r hr hr' => hall h4 x hx r hr hr') R ?_ xs.length 0 1 (by omega) (by omega) (by omega) rfl
    rw [if_neg (fun hx => hd hx.1)]
    exact g
  ·exact go (-1) (by unfold Dt.meas; rw [if_neg h6, if_pos hk, hp]; rfl)
  ·exact go 1 (by unfold Dt.meas; rw [if_neg h6, if_neg hk, if_pos hp])
  ·exact go (-1) (by unfold Dt.meas; rw [if_neg h6, if_neg hk, if_neg (by rw [hp]; simp)])
theorem rSize_all : ∀ (xs : List Dt) (dp : Int), Dt.oks xs → 0 ≤ dp → dp ≤ 100 → ∀ x ∈ xs, ∀ room : Int, room ≤ 8192 → -8192 ≤ room → Fn Tryz.prog 43 [fzD x, fzI .i64 dp, fzI .i64 room] [] (fzI .i64 (x.siz dp room)) []
 | [], dp, hok, h0, h1 => fun x hx => by cases hx
 | y :: xs, dp, hok, h0, h1 => fun x hx room hr hr' => by
  unfold Dt.oks at hok
  have h2 := rSize_ok y dp room hok.1 h0 h1 hr hr'
  have h3 := rSize_all xs dp hok.2 h0 h1
  rcases List.mem_cons.1 hx with rfl | hx
  ·exact h2
  ·exact h3 x hx room hr hr'
end
theorem rSound_ok (x : Dt) (hx : x.ok) : Fn Tryz.prog 17 [fzD x] [] (fzB x.snd) [] := by
 have h := rSize_ok x 1 8192 hx (by omega) (by omega) (by omega) (by omega)
 have hm := meas_le x 1 8192
 have e : decide (x.siz 1 8192 ≤ 8192) = x.snd := by
  unfold Dt.siz Dt.snd
  rw [decide_eq_decide]
  split <;> omega
 rw [← e]
 clear e hm
 generalize x.siz 1 8192 = q at *
 obtain ⟨k, t, n, l, xs, a⟩ := x
 unfold fzD at h ⊢
 simp only [Dt.row, List.map_cons, List.map_nil] at h ⊢
 refine ref02_Sound_fn _ _ _ _ _ _ ?_
 unfold ref02_Sound_H
 exact ⟨_, h, rfl, rfl⟩
end
set_option maxRecDepth 100000
section
def law04_ReadSound_lv : List Nat → Keep := lvOf []
def law04_ReadSound_H (R : TV → List Ob → Prop) (d0 : Int) (d1 : ByteArray) (d2 : Bool) (d3 : LL) (d4 : LL) (d5 : Int) : Prop :=
 (∃ b6 : Bool, ((Fn Tryz.prog 21 [(TV.agg [(AV.fz (FV.int .i64 d0)), (AV.fz (FV.str d1)), (AV.fz (FV.bool d2)), (AV.fz (FV.sl 1 d3)), (AV.fz (FV.sl 6 d4)), (AV.fz (FV.int .i64 d5))]), (TV.one (AV.fz (FV.int .i64 1)))] [] (TV.one (AV.fz (FV.bool b6))) []) ∧ ((((Bool.not b6) = true) → (∃ b7 : Bool, ((Fn Tryz.prog 16 [] [] (TV.one (AV.fz (FV.bool b7))) []) ∧ (R (TV.one (AV.fz (FV.bool b7))) [])))) ∧ (((Bool.not b6) = false) → (∃ b8 : Bool, ((Fn Tryz.prog 16 [] [] (TV.one (AV.fz (FV.bool b8))) []) ∧ (((b8 = true) → (∃ n2 : Int, (∃ s1 : ByteArray, (∃ b9 : Bool, (∃ es2 : LL, (∃ es3 : LL, (∃ n3 : Int, ((Fn Tryz.prog 24 [(TV.agg [(AV.fz (FV.int .i64 d0)), (AV.fz (FV.str d1)), (AV.fz (FV.bool d2)), (AV.fz (FV.sl 1 d3)), (AV.fz (FV.sl 6 d4)), (AV.fz (FV.int .i64 d5))])] [] (TV.agg [(AV.fz (FV.int .i64 n2)), (AV.fz (FV.str s1)), (AV.fz (FV.bool b9)), (AV.fz (FV.sl 1 es2)), (AV.fz (FV.sl 6 es3)), (AV.fz (FV.int .i64 n3))]) []) ∧ (∃ b10 : Bool, ((Fn Tryz.prog 26 [(TV.agg [(AV.fz (FV.int .i64 n2)), (AV.fz (FV.str s1)), (AV.fz (FV.bool b9)), (AV.fz (FV.sl 1 es2)), (AV.fz (FV.sl 6 es3)), (AV.fz (FV.int .i64 n3))])] [] (TV.one (AV.fz (FV.bool b10))) []) ∧ (∃ b11 : Bool, ((Fn Tryz.prog 17 [(TV.agg [(AV.fz (FV.int .i64 d0)), (AV.fz (FV.str d1)), (AV.fz (FV.bool d2)), (AV.fz (FV.sl 1 d3)), (AV.fz (FV.sl 6 d4)), (AV.fz (FV.int .i64 d5))])] [] (TV.one (AV.fz (FV.bool b11))) []) ∧ (R (TV.one (AV.fz (FV.bool (b10 == b11)))) []))))))))))))) ∧ ((b8 = false) → (R (TV.one (AV.fz (FV.bool false))) [])))))))))
theorem law04_ReadSound_fn (d0 : Int) (d1 : ByteArray) (d2 : Bool) (d3 : LL) (d4 : LL) (d5 : Int) {r : TV} {h : List Ob} (H : law04_ReadSound_H (fun r' h' => r' = r ∧ h' = h) d0 d1 d2 d3 d4 d5) : Fn Tryz.prog 9 [(TV.agg [(AV.fz (FV.int .i64 d0)), (AV.fz (FV.str d1)), (AV.fz (FV.bool d2)), (AV.fz (FV.sl 1 d3)), (AV.fz (FV.sl 6 d4)), (AV.fz (FV.int .i64 d5))])] [] r h :=
 Fn.by_tr (M := (modeOf [] [])) (lv := law04_ReadSound_lv) (own := none) (F := Tryz.f9) (by kernel_rfl) (by kernel_rfl) (by first | decide | simp) (fun _ _ h => h) (by kernel_rfl) H
end
section
theorem law_ReadSound (xs : List TV) (h : TyAll Tryz.prog [33] xs) (hb : bulkA xs ≤ 1048576) : Fn Tryz.prog 9 xs [] (.one (.fz (.bool true))) [] := by
 cases h with
 | cons h1 h =>
 cases h
 simp only [bulkA] at hb
 obtain ⟨d, rfl, hd, _⟩ := tyV_Dt h1 (by omega)
 obtain ⟨b0, c1⟩ := light4_ok d 1 hd
 have c2 := own4_ok d hd
 have c3 := readSound_ok d hd
 have c4 := rSound_ok d hd
 generalize d.snd = b1 at *
 obtain ⟨k, t, n, l, ys, a⟩ := d
 unfold fzD at *
 simp only [Dt.row, List.map_cons, List.map_nil] at c1 c2 c3 c4 ⊢
 refine law04_ReadSound_fn _ _ _ _ _ _ ?_
 unfold law04_ReadSound_H
 refine ⟨_, c1, fun _ => ⟨_, answers04_ok, rfl, rfl⟩, fun _ => ⟨_, answers04_ok, fun _ => ⟨_, _, _, _, _, _, c2, _, c3, _, c4, ?_⟩, fun h => (by cases h)⟩⟩
 rw [beq_self_eq_true]
 exact ⟨rfl, rfl⟩
end
end Go.Proofs.YtenkkekooimpjaaGreatDoor.Ev
end
